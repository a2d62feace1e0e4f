/-
  An entry that came in, opened.
-/
import Derived.Test.YtogcnfhmcpkdcaaEntryLaw
import Derived.Test.YtogcnfhmcpkdcaaOpenFields
namespace Go.Proofs.Ytogcnfhmcpkdcaa
open Go.ChangeShapes Go.WideShapes Go.ChangeAt Go.RowKit
set_option maxRecDepth 100000
set_option linter.unusedVariables false
set_option linter.unusedSimpArgs false

theorem cells68 : Try.prog.cellsOf 68 = 37 := by kernel_rfl

theorem entry_split {cs : List Value} (h : cs.length = 37) : cs = cs.take 1 ++ (cs.drop 1).take 1 ++ (cs.drop 2).take 32 ++ (cs.drop 34).take 1 ++ (cs.drop 35).take 1 ++ (cs.drop 36).take 1 := by
  have e0 : cs = cs.take 1 ++ cs.drop 1 := (List.take_append_drop 1 cs).symm
  have e1 : cs.drop 1 = (cs.drop 1).take 1 ++ cs.drop 2 := by rw [show cs.drop 2 = (cs.drop 1).drop 1 by rw [List.drop_drop]]; exact (List.take_append_drop 1 _).symm
  have e2 : cs.drop 2 = (cs.drop 2).take 32 ++ cs.drop 34 := by rw [show cs.drop 34 = (cs.drop 2).drop 32 by rw [List.drop_drop]]; exact (List.take_append_drop 32 _).symm
  have e3 : cs.drop 34 = (cs.drop 34).take 1 ++ cs.drop 35 := by rw [show cs.drop 35 = (cs.drop 34).drop 1 by rw [List.drop_drop]]; exact (List.take_append_drop 1 _).symm
  have e4 : cs.drop 35 = (cs.drop 35).take 1 ++ cs.drop 36 := by rw [show cs.drop 36 = (cs.drop 35).drop 1 by rw [List.drop_drop]]; exact (List.take_append_drop 1 _).symm
  have e5 : cs.drop 36 = (cs.drop 36).take 1 := (List.take_of_length_le (by simp; omega)).symm
  generalize hA : cs.take 1 = A at *
  generalize hB : (cs.drop 1).take 1 = B at *
  generalize hC : (cs.drop 2).take 32 = C at *
  generalize hD : (cs.drop 34).take 1 = D at *
  generalize hE : (cs.drop 35).take 1 = E at *
  rw [e5] at e4
  rw [e4] at e3
  rw [e3] at e2
  rw [e2] at e1
  rw [e1] at e0
  simpa using e0

section
variable {H : Type} {enc : TypeId × Value → H} {w : World} {cs : List Value}

theorem Rd.entry (h : Rd enc Try.prog w 68 cs) : ∃ x : PEntry, cs = ecells x ∧ x.tx.length = 32 := by
  obtain ⟨h1, h2⟩ := h.struct Try.underlying68
  rw [cells68] at h1
  have f0 : Rd enc Try.prog w 3 ((cs.drop 0).take (Try.prog.cellsOf 3)) := h2 0 _ rfl
  have f1 : Rd enc Try.prog w 3 ((cs.drop 1).take (Try.prog.cellsOf 3)) := h2 1 _ rfl
  have f2 : Rd enc Try.prog w 56 ((cs.drop 2).take (Try.prog.cellsOf 56)) := h2 2 _ rfl
  have f3 : Rd enc Try.prog w 32 ((cs.drop 34).take (Try.prog.cellsOf 32)) := h2 3 _ rfl
  have f4 : Rd enc Try.prog w 3 ((cs.drop 35).take (Try.prog.cellsOf 3)) := h2 4 _ rfl
  have f5 : Rd enc Try.prog w 3 ((cs.drop 36).take (Try.prog.cellsOf 3)) := h2 5 _ rfl
  rw [cells3] at f0 f1 f4 f5
  rw [cells32] at f3
  rw [cells56] at f2
  obtain ⟨k, hk, _⟩ := f0.int Try.underlying3
  obtain ⟨s, hs, _⟩ := f1.int Try.underlying3
  obtain ⟨d, hd, hd32⟩ := f2.id
  obtain ⟨a, ha, wa⟩ := f3.int Try.underlying32
  obtain ⟨a, rfl, ha64⟩ := u64_nat wa
  obtain ⟨y, hy, _⟩ := f4.int Try.underlying3
  obtain ⟨p, hp, _⟩ := f5.int Try.underlying3
  refine ⟨⟨k, s, d, a, y, p⟩, ?_, hd32⟩
  rw [entry_split h1]
  simp only [List.drop_zero] at hk
  rw [hk, hs, hd, ha, hy, hp]
  simp [ecells]

theorem open_entry {v : Value} {d : DataW H} {ps : List MemPlace} {r : Reach} {base : Nat} (hok : Value.okWide Try.prog w r base 68 v)
    (h : DataW.Trod enc Try.prog w 0 (fun _ => true) true 68 v d ps) : ∃ x : PEntry, v = .agg (eagg x) ∧ x.tx.length = 32 := by
  obtain ⟨cs, rfl⟩ := open_agg hok Try.underlying68
  obtain ⟨x, h1, h2⟩ := (Rd.of h).entry
  simp only [Value.cells] at h1
  exact ⟨x, by rw [eagg, ← h1], h2⟩
end
end Go.Proofs.Ytogcnfhmcpkdcaa
