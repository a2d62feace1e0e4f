/-
  Bytes and a byte, opened.
  A row of bytes inside another value, opened.
-/
import Derived.Test.YtogcnfhmcpkdcaaRows
import Derived.Test.YtogcnfhmcpkdcaaShelf
import Derived.Test.YtogcnfhmcpkdcaaOpen
import Derived.Test.YtogcnfhmcpkdcaaNumM
import Derived.Test.YtogcnfhmcpkdcaaOpenB
namespace Go.Proofs.Ytogcnfhmcpkdcaa
open Go.ChangeShapes Go.WideShapes Go.ChangeAt Go.RowKit
set_option maxRecDepth 100000

theorem u8_nat {z : Int} (h : (Lit.int .u8 z).wf = true) : ∃ n : Nat, z = (n : Int) ∧ n < 256 := by
  have hmin : IntKind.u8.min = 0 := rfl
  have hmax : IntKind.u8.max = 255 := rfl
  simp only [Lit.wf, Bool.and_eq_true, decide_eq_true_eq] at h
  exact ⟨z.toNat, by omega, by omega⟩

theorem u8_bytes : ∀ (zs : List Int), (∀ z ∈ zs, (Lit.int .u8 z).wf = true) → ∃ l : List UInt8, zs.map (Value.int .u8) = l.map bv ∧ zs.length = l.length
  | [], _ => ⟨[], rfl, rfl⟩
  | z :: zs, h => by
    obtain ⟨n, rfl, hn⟩ := u8_nat (h z (by simp))
    obtain ⟨l, h1, h2⟩ := u8_bytes zs (fun y hy => h y (by simp [hy]))
    refine ⟨UInt8.ofNat n :: l, ?_, by simp [h2]⟩
    simp only [List.map_cons, h1]
    congr 1
    simp [bv]
    omega

set_option maxRecDepth 100000 in
theorem open_bytes {H : Type} {enc : TypeId × Value → H} {w : World} {v : Value} {d : DataW H} {ps : List MemPlace} {r : Reach} {base : Nat}
    (hok : Value.okWide Try.prog w r base 22 v) (h : DataW.Trod enc Try.prog w 0 (fun _ => true) true 22 v d ps) :
    ∃ (a : Option Addr) (n c : Nat) (l : List UInt8), v = .slice a n c ∧ n = l.length ∧ (n ≤ 140737488355328 → BsAt w w.heap.size a n c l) := by
  obtain ⟨a, c, zs, rfl, hs, hw⟩ := open_ints_slAt hok h Try.underlying22 Try.underlying5 (by kernel_rfl)
  obtain ⟨l, h1, h2⟩ := u8_bytes zs hw
  rw [h1] at hs
  exact ⟨a, zs.length, c, l, rfl, h2, fun hn => bsAt_of_slAt hs hn⟩
end Go.Proofs.Ytogcnfhmcpkdcaa

namespace Go.Proofs.Ytogcnfhmcpkdcaa
open Go.ChangeShapes Go.WideShapes Go.ChangeAt Go.RowKit
set_option maxRecDepth 100000
set_option linter.unusedVariables false
set_option linter.unusedSimpArgs false

theorem cells5 : Try.prog.cellsOf 5 = 1 := by kernel_rfl
theorem cells22 : Try.prog.cellsOf 22 = 1 := by kernel_rfl

section
variable {H : Type} {enc : TypeId × Value → H} {w : World} {cs : List Value}

/-- a slice of bytes -/
theorem Rd.bytes (h : Rd enc Try.prog w 22 cs) : ∃ (a : Option Addr) (n c : Nat) (l : List UInt8), cs = [.slice a n c] ∧ n = l.length ∧ (n ≤ 140737488355328 → BsAt w w.heap.size a n c l) := by
  obtain ⟨a, n, c, xs, rfl, hsl, hel⟩ := h.slice Try.underlying22 cells5 (by omega)
  have hlen : xs.length = n := by simpa using hsl.hlen
  have hint : ∀ i (hi : i < xs.length), ∃ z, xs[i] = .int .u8 z ∧ (Lit.int .u8 z).wf = true := by
    intro i hi
    obtain ⟨z, h1, h2⟩ := (hel i (by omega)).int Try.underlying5
    rw [Nat.mul_one, List.drop_eq_getElem_cons hi] at h1
    simp only [List.take_succ_cons, List.take_zero, List.cons.injEq, and_true] at h1
    exact ⟨z, h1, h2⟩
  have hz : ∃ zs : List Int, xs = zs.map (Value.int .u8) ∧ ∀ z ∈ zs, (Lit.int .u8 z).wf = true := by
    clear hsl hel hlen
    induction xs with
    | nil => exact ⟨[], rfl, by simp⟩
    | cons x xs ih =>
      obtain ⟨z, h1, h2⟩ := hint 0 (by simp)
      obtain ⟨zs, h3, h4⟩ := ih (fun i hi => by have := hint (i + 1) (by simpa using hi); simpa using this)
      simp at h1
      exact ⟨z :: zs, by simp [h1, h3], by simpa using ⟨h2, h4⟩⟩
  obtain ⟨zs, rfl, hw⟩ := hz
  obtain ⟨l, h1, h2⟩ := u8_bytes zs hw
  rw [h1] at hsl
  have hl : zs.length = n := by simpa using hlen
  exact ⟨a, n, c, l, rfl, by omega, fun hn => bsAt_of_slAt hsl hn⟩

end
end Go.Proofs.Ytogcnfhmcpkdcaa
