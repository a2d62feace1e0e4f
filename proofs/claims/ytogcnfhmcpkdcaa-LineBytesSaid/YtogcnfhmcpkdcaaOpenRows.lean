/-
  A row of bytes inside another value, opened.
-/
import Derived.Test.YtogcnfhmcpkdcaaFieldLaw
import Derived.Test.YtogcnfhmcpkdcaaOpen
import Derived.Test.YtogcnfhmcpkdcaaOpenB
import Derived.Test.YtogcnfhmcpkdcaaOpenBytes
namespace Go.Proofs.Ytogcnfhmcpkdcaa
open Go.ChangeShapes Go.WideShapes Go.ChangeAt Go.RowKit
set_option maxRecDepth 100000
set_option linter.unusedVariables false
set_option linter.unusedSimpArgs false

theorem cells5 : Try.prog.cellsOf 5 = 1 := by kernel_rfl
theorem cells22 : Try.prog.cellsOf 22 = 1 := by kernel_rfl

section
variable {H : Type} {enc : TypeId × Value → H} {w : World} {cs : List Value}

/-- a slice of bytes -/
theorem Rd.bytes (h : Rd enc Try.prog w 22 cs) : ∃ (a : Option Addr) (n c : Nat) (l : List UInt8), cs = [.slice a n c] ∧ n = l.length ∧ (n ≤ 140737488355328 → BsAt w w.heap.size a n c l) := by
  obtain ⟨a, n, c, xs, rfl, hsl, hel⟩ := h.slice Try.underlying22 cells5 (by omega)
  have hlen : xs.length = n := by simpa using hsl.hlen
  have hint : ∀ i (hi : i < xs.length), ∃ z, xs[i] = .int .u8 z ∧ (Lit.int .u8 z).wf = true := by
    intro i hi
    obtain ⟨z, h1, h2⟩ := (hel i (by omega)).int Try.underlying5
    rw [Nat.mul_one, List.drop_eq_getElem_cons hi] at h1
    simp only [List.take_succ_cons, List.take_zero, List.cons.injEq, and_true] at h1
    exact ⟨z, h1, h2⟩
  have hz : ∃ zs : List Int, xs = zs.map (Value.int .u8) ∧ ∀ z ∈ zs, (Lit.int .u8 z).wf = true := by
    clear hsl hel hlen
    induction xs with
    | nil => exact ⟨[], rfl, by simp⟩
    | cons x xs ih =>
      obtain ⟨z, h1, h2⟩ := hint 0 (by simp)
      obtain ⟨zs, h3, h4⟩ := ih (fun i hi => by have := hint (i + 1) (by simpa using hi); simpa using this)
      simp at h1
      exact ⟨z :: zs, by simp [h1, h3], by simpa using ⟨h2, h4⟩⟩
  obtain ⟨zs, rfl, hw⟩ := hz
  obtain ⟨l, h1, h2⟩ := u8_bytes zs hw
  rw [h1] at hsl
  have hl : zs.length = n := by simpa using hlen
  exact ⟨a, n, c, l, rfl, by omega, fun hn => bsAt_of_slAt hsl hn⟩

end
end Go.Proofs.Ytogcnfhmcpkdcaa
