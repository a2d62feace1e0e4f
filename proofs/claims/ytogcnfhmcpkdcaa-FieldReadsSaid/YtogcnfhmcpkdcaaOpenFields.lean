/-
  Rows of fields, entries and items, opened; rows of fields as cells.
-/
import Derived.Test.YtogcnfhmcpkdcaaFieldsLaw
import Derived.Test.YtogcnfhmcpkdcaaOpen
import Derived.Test.YtogcnfhmcpkdcaaOpenB
import Derived.Test.YtogcnfhmcpkdcaaOpenBytes
namespace Go.Proofs.Ytogcnfhmcpkdcaa
open Go.ChangeShapes Go.WideShapes Go.ChangeAt Go.RowKit
set_option maxRecDepth 100000
set_option linter.unusedVariables false
set_option linter.unusedSimpArgs false

theorem cells32 : Try.prog.cellsOf 32 = 1 := by kernel_rfl
theorem cells5 : Try.prog.cellsOf 5 = 1 := by kernel_rfl
theorem cells22 : Try.prog.cellsOf 22 = 1 := by kernel_rfl
theorem cells56 : Try.prog.cellsOf 56 = 32 := by kernel_rfl
theorem cells58 : Try.prog.cellsOf 58 = 35 := by kernel_rfl

section
variable {H : Type} {enc : TypeId × Value → H} {w : World} {cs : List Value}

theorem u64_nat {z : Int} (h : (Lit.int .u64 z).wf = true) : ∃ n : Nat, z = (n : Int) ∧ n < 18446744073709551616 := by
  have hmin : IntKind.u64.min = 0 := rfl
  have hmax : IntKind.u64.max = 18446744073709551615 := rfl
  simp only [Lit.wf, Bool.and_eq_true, decide_eq_true_eq] at h
  exact ⟨z.toNat, by omega, by omega⟩

/-- an array of 32 bytes -/
theorem Rd.id (h : Rd enc Try.prog w 56 cs) : ∃ d : List UInt8, cs = d.map bv ∧ d.length = 32 := by
  obtain ⟨h1, h2⟩ := h.array Try.underlying56
  rw [cells56] at h1
  have hint : ∀ i (hi : i < cs.length), ∃ n : Nat, cs[i] = .int .u8 (n : Int) ∧ n < 256 := by
    intro i hi
    have h3 := h2 i (by omega)
    rw [cells5, Nat.mul_one, List.drop_eq_getElem_cons hi] at h3
    obtain ⟨z, h4, h5⟩ := h3.int Try.underlying5
    obtain ⟨n, rfl, hn⟩ := u8_nat h5
    simp only [List.take_succ_cons, List.take_zero, List.cons.injEq, and_true] at h4
    exact ⟨n, h4, hn⟩
  clear h h2
  have hz : ∀ cs : List Value, (∀ i (hi : i < cs.length), ∃ n : Nat, cs[i] = .int .u8 (n : Int) ∧ n < 256) → ∃ d : List UInt8, cs = d.map bv := by
    intro cs
    induction cs with
    | nil => intro _; exact ⟨[], rfl⟩
    | cons x xs ih =>
      intro hh
      obtain ⟨n, h1, h2⟩ := hh 0 (by simp)
      obtain ⟨d, h3⟩ := ih (fun i hi => by have := hh (i + 1) (by simpa using hi); simpa using this)
      refine ⟨UInt8.ofNat n :: d, ?_⟩
      simp only [List.getElem_cons_zero] at h1
      simp only [List.map_cons, ← h3, h1]
      congr 1
      simp [bv]
      omega
  obtain ⟨d, hd⟩ := hz cs hint
  exact ⟨d, hd, by rw [← h1, hd]; simp⟩

/-- a slice of bytes -/
theorem Rd.bytes (h : Rd enc Try.prog w 22 cs) : ∃ (a : Option Addr) (n c : Nat) (l : List UInt8), cs = [.slice a n c] ∧ n = l.length ∧ (n ≤ 140737488355328 → BsAt w w.heap.size a n c l) := by
  obtain ⟨a, n, c, xs, rfl, hsl, hel⟩ := h.slice Try.underlying22 cells5 (by omega)
  have hlen : xs.length = n := by simpa using hsl.hlen
  have hint : ∀ i (hi : i < xs.length), ∃ z, xs[i] = .int .u8 z ∧ (Lit.int .u8 z).wf = true := by
    intro i hi
    obtain ⟨z, h1, h2⟩ := (hel i (by omega)).int Try.underlying5
    rw [Nat.mul_one, List.drop_eq_getElem_cons hi] at h1
    simp only [List.take_succ_cons, List.take_zero, List.cons.injEq, and_true] at h1
    exact ⟨z, h1, h2⟩
  have hz : ∃ zs : List Int, xs = zs.map (Value.int .u8) ∧ ∀ z ∈ zs, (Lit.int .u8 z).wf = true := by
    clear hsl hel hlen
    induction xs with
    | nil => exact ⟨[], rfl, by simp⟩
    | cons x xs ih =>
      obtain ⟨z, h1, h2⟩ := hint 0 (by simp)
      obtain ⟨zs, h3, h4⟩ := ih (fun i hi => by have := hint (i + 1) (by simpa using hi); simpa using this)
      simp at h1
      exact ⟨z :: zs, by simp [h1, h3], by simpa using ⟨h2, h4⟩⟩
  obtain ⟨zs, rfl, hw⟩ := hz
  obtain ⟨l, h1, h2⟩ := u8_bytes zs hw
  rw [h1] at hsl
  have hl : zs.length = n := by simpa using hlen
  exact ⟨a, n, c, l, rfl, by omega, fun hn => bsAt_of_slAt hsl hn⟩

/-- a field in memory -/
structure MF where
  f : PF
  a : Option Addr
  c : Nat
def MF.cells (m : MF) : List Value := .int .i64 m.f.k :: .int .u64 m.f.n :: .slice m.a m.f.t.length m.c :: m.f.d.map bv
def cellsF : List MF → List Value
  | [] => []
  | m :: r => m.cells ++ cellsF r
/-- what is known of a field that was read -/
structure MF.Is (w : World) (B : Nat) (m : MF) : Prop where
  n64 : m.f.n < 18446744073709551616
  d32 : m.f.d.length = 32
  bs : m.f.t.length ≤ 140737488355328 → BsAt w B m.a m.f.t.length m.c m.f.t

theorem MF.Is.below {w w' : World} {B B' : Nat} {m : MF} (h : m.Is w B) (hb : Below B' w w') (hB : B ≤ B') : m.Is w' B := ⟨h.n64, h.d32, fun hn => (h.bs hn).below hb hB⟩
theorem MF.Is.len {w : World} {B : Nat} {m : MF} (h : m.Is w B) : m.cells.length = 35 := by simp [MF.cells, h.d32]

theorem Rd.field (h : Rd enc Try.prog w 58 cs) : ∃ m : MF, cs = m.cells ∧ m.Is w w.heap.size := by
  obtain ⟨h1, h2⟩ := h.struct Try.underlying58
  rw [cells58] at h1
  have f0 : Rd enc Try.prog w 3 ((cs.drop 0).take (Try.prog.cellsOf 3)) := h2 0 _ rfl
  have f1 : Rd enc Try.prog w 32 ((cs.drop 1).take (Try.prog.cellsOf 32)) := h2 1 _ rfl
  have f2 : Rd enc Try.prog w 22 ((cs.drop 2).take (Try.prog.cellsOf 22)) := h2 2 _ rfl
  have f3 : Rd enc Try.prog w 56 ((cs.drop 3).take (Try.prog.cellsOf 56)) := h2 3 _ rfl
  rw [cells3] at f0
  rw [cells32] at f1
  rw [cells22] at f2
  rw [cells56] at f3
  obtain ⟨k, hk, wk⟩ := f0.int Try.underlying3
  obtain ⟨n, hn, wn⟩ := f1.int Try.underlying32
  obtain ⟨n, rfl, hn64⟩ := u64_nat wn
  obtain ⟨a, ln, c, t, ht, rfl, hbs⟩ := f2.bytes
  obtain ⟨d, hd, hd32⟩ := f3.id
  refine ⟨⟨⟨k, n, t, d⟩, a, c⟩, ?_, ⟨hn64, hd32, hbs⟩⟩
  have e1 : cs.drop 3 = d.map bv := by
    rw [← hd, List.take_of_length_le (by simp; omega)]
  have e2 : cs = cs.take 1 ++ (cs.drop 1).take 1 ++ (cs.drop 2).take 1 ++ cs.drop 3 := by
    obtain ⟨x, y, z, r, rfl⟩ : ∃ x y z r, cs = x :: y :: z :: r := by
      match cs, h1 with
      | x :: y :: z :: r, _ => exact ⟨x, y, z, r, rfl⟩
    simp
  rw [e2, e1, ht, hn]
  simp only [List.drop_zero] at hk
  rw [hk]
  rfl

theorem open_fields {v : Value} {d : DataW H} {ps : List MemPlace} {r : Reach} {base : Nat} (hok : Value.okWide Try.prog w r base 53 v)
    (h : DataW.Trod enc Try.prog w 0 (fun _ => true) true 53 v d ps) : ∃ (a : Option Addr) (c : Nat) (ms : List MF), v = .slice a ms.length c ∧ SlAt w w.heap.size 35 a ms.length c (cellsF ms) ∧ ∀ m ∈ ms, m.Is w w.heap.size := by
  obtain ⟨a, n, c, xs, rfl, hsl, hel⟩ := open_slAt hok h Try.underlying53 cells58 (by omega)
  have hm : ∀ (n : Nat) (xs : List Value), xs.length = n * 35 → (∀ i, i < n → Rd enc Try.prog w 58 ((xs.drop (i * 35)).take 35)) → ∃ ms : List MF, ms.length = n ∧ xs = cellsF ms ∧ ∀ m ∈ ms, m.Is w w.heap.size := by
    intro n
    induction n with
    | zero => intro xs hl _; exact ⟨[], rfl, by simpa [cellsF] using hl, by simp⟩
    | succ n ih =>
      intro xs hl hr
      obtain ⟨m, h1, h2⟩ := (hr 0 (by omega)).field
      obtain ⟨ms, h3, h4, h5⟩ := ih (xs.drop 35) (by simp; omega) (fun i hi => by
        have := hr (i + 1) (by omega)
        rw [List.drop_drop]
        rwa [show 35 + i * 35 = (i + 1) * 35 by omega])
      refine ⟨m :: ms, by simp [h3], ?_, ?_⟩
      · simp only [cellsF, ← h4, ← h1]
        simp
      · intro x hx
        simp at hx
        rcases hx with rfl | hx
        · exact h2
        · exact h5 x hx
  obtain ⟨ms, h1, rfl, h3⟩ := hm n xs hsl.hlen hel
  subst h1
  exact ⟨a, c, ms, rfl, hsl, h3⟩
end
end Go.Proofs.Ytogcnfhmcpkdcaa
