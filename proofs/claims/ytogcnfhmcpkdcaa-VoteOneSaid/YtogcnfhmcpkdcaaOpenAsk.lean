/-
  A list of askings, opened.
-/
import Derived.Test.YtogcnfhmcpkdcaaVote6
namespace Go.Proofs.Ytogcnfhmcpkdcaa
open Go.ChangeShapes Go.WideShapes Go.ChangeAt Go.RowKit
set_option maxRecDepth 100000

theorem open_asks {H : Type} {enc : TypeId × Value → H} {w : World} {v : Value} {d : DataW H} {ps : List MemPlace} {r : Reach} {base : Nat} (hok : Value.okWide Try.prog w r base 133 v)
    (h : DataW.Trod enc Try.prog w 0 (fun _ => true) true 133 v d ps) : ∃ a n c l, v = .slice a n c ∧ AsksAt w w.heap.size a n c l := by
  obtain ⟨a, n, c, xs, rfl, hsl, hel⟩ := open_slAt hok h Try.underlying133 cells136 (by omega)
  have hlen := hsl.hlen
  have hq : ∀ i, i < n → ∃ q : Int × Int × Bool, xs[i * 3]? = some (.int .i64 q.1) ∧ xs[i * 3 + 1]? = some (.int .i64 q.2.1) ∧ xs[i * 3 + 2]? = some (.bool q.2.2) := by
    intro i hi
    obtain ⟨t, f, b, h1, _, _⟩ := (hel i hi).ask
    have g : ∀ j, j < 3 → xs[i * 3 + j]? = ((xs.drop (i * 3)).take 3)[j]? := fun j hj => by rw [List.getElem?_take_of_lt hj, List.getElem?_drop]
    refine ⟨(t, f, b), ?_, ?_, ?_⟩
    · have := g 0 (by omega); rw [h1] at this; simpa using this
    · have := g 1 (by omega); rw [h1] at this; simpa using this
    · have := g 2 (by omega); rw [h1] at this; simpa using this
  obtain ⟨Q, hQ⟩ := Deep.choose_lt (α := Int × Int × Bool) (p := fun i q => xs[i * 3]? = some (.int .i64 q.1) ∧ xs[i * 3 + 1]? = some (.int .i64 q.2.1) ∧ xs[i * 3 + 2]? = some (.bool q.2.2)) hq
  refine ⟨a, n, c, (List.range n).map Q, rfl, by simp, hsl.hle, hsl.hmax, fun hn => ?_⟩
  obtain ⟨b, o, e, hb, hc⟩ := hsl.hat (by omega)
  refine ⟨b, o, e, hb, fun i hi => ?_⟩
  have hi' : i < n := by simpa using hi
  obtain ⟨h1, h2, h3⟩ := hQ i hi'
  simp only [List.getElem_map, List.getElem_range]
  exact ⟨by rw [hc _ (by omega)]; exact h1, by rw [Nat.add_assoc, hc _ (by omega)]; exact h2, by rw [Nat.add_assoc, hc _ (by omega)]; exact h3⟩
end Go.Proofs.Ytogcnfhmcpkdcaa
