/-
  A row of rows of bytes, opened.
-/
import Derived.Test.YtogcnfhmcpkdcaaOpenActs
import Derived.Test.YtogcnfhmcpkdcaaRaftMem
namespace Go.Proofs.Ytogcnfhmcpkdcaa
open Go.ChangeShapes Go.WideShapes Go.ChangeAt Go.RowKit
set_option maxRecDepth 100000
set_option linter.unusedVariables false
set_option linter.unusedSimpArgs false

/-- what is known of a row of bytes that was read -/
def NoteRd (w : World) (m : MNote) : Prop := m.b.length ≤ 140737488355328 → BsAt w w.heap.size m.a m.b.length m.c m.b

section
variable {H : Type} {enc : TypeId × Value → H} {w : World} {cs : List Value}
theorem Rd.note (h : Rd enc Try.prog w 22 cs) : ∃ m : MNote, cs = [m.cell] ∧ NoteRd w m := by
  obtain ⟨a, n, c, l, rfl, rfl, hb⟩ := h.bytes
  exact ⟨⟨a, c, l⟩, rfl, hb⟩
theorem cells_flat (ns : List MNote) : ns.flatMap (fun m => [m.cell]) = ns.map MNote.cell := by
  induction ns with
  | nil => rfl
  | cons m ns ih => rw [List.flatMap_cons, ih]; rfl
theorem open_bss {v : Value} {d : DataW H} {ps : List MemPlace} {r : Reach} {base : Nat} (hok : Value.okWide Try.prog w r base 146 v)
    (h : DataW.Trod enc Try.prog w 0 (fun _ => true) true 146 v d ps) : ∃ (a : Option Addr) (c : Nat) (ns : List MNote), v = .slice a ns.length c ∧ SlAt w w.heap.size 1 a ns.length c (ns.map MNote.cell) ∧ ∀ m ∈ ns, NoteRd w m := by
  obtain ⟨a, n, c, xs, rfl, hsl, hel⟩ := open_slAt hok h Try.underlying146 cells22 (by omega)
  obtain ⟨ns, h1, h2, h3⟩ := rows_of (fun _ h => Rd.note h) n xs hsl.hlen hel
  subst h1
  rw [cells_flat] at h2
  subst h2
  exact ⟨a, c, ns, rfl, hsl, h3⟩
end
end Go.Proofs.Ytogcnfhmcpkdcaa
