/-
  Rows of rows of bytes and rows of truths, opened (RaftAlone).
  The steps of a group, opened.
-/
import Derived.Test.YtogcnfhmcpkdcaaGreatOpenO
import Derived.Test.YtogcnfhmcpkdcaaGreatRaftMem
namespace Go.Proofs.YtogcnfhmcpkdcaaGreat
open Go.ChangeShapes Go.WideShapes Go.ChangeAt Go.RowKit
set_option maxRecDepth 100000
set_option linter.unusedVariables false
set_option linter.unusedSimpArgs false
theorem u8_nat {z : Int} (h : (Lit.int .u8 z).wf = true) : ∃ n : Nat, z = (n : Int) ∧ n < 256 := by
 have hmin : IntKind.u8.min = 0 := rfl;have hmax : IntKind.u8.max = 255 := rfl;simp only [Lit.wf, Bool.and_eq_true, decide_eq_true_eq] at h;exact ⟨z.toNat, by omega, by omega⟩
theorem u8_bytes : ∀ (zs : List Int), (∀ z ∈ zs, (Lit.int .u8 z).wf = true) → ∃ l : List UInt8, zs.map (Value.int .u8) = l.map bv ∧ zs.length = l.length
 | [], _ => ⟨[], rfl, rfl⟩
 | z :: zs, h => by
  obtain ⟨n, rfl, hn⟩ := u8_nat (h z (by simp));obtain ⟨l, h1, h2⟩ := u8_bytes zs (fun y hy => h y (by simp [hy]));refine ⟨UInt8.ofNat n :: l, ?_, by simp [h2]⟩;simp only [List.map_cons, h1]
  congr 1
  simp [bv];omega
theorem cells5 : Tryz.prog.cellsOf 5 = 1 := by kernel_rfl
theorem cells27 : Tryz.prog.cellsOf 27 = 1 := by kernel_rfl
theorem rows_of {α : Type} {size : Nat} {cell : α → List Value} {P : α → Prop} {R : List Value → Prop} (hR : ∀ cs, R cs → ∃ m, cs = cell m ∧ P m) :
  ∀ (n : Nat) (xs : List Value), xs.length = n * size → (∀ i, i < n → R ((xs.drop (i * size)).take size)) → ∃ ms : List α, ms.length = n ∧ xs = ms.flatMap cell ∧ ∀ m ∈ ms, P m := by
 intro n
 induction n with
 | zero => intro xs hl _; exact ⟨[], rfl, by simpa using hl, by simp⟩
 | succ n ih =>
  intro xs hl hr;obtain ⟨m, h1, h2⟩ := hR _ (hr 0 (by omega));obtain ⟨ms, h3, h4, h5⟩ := ih (xs.drop size) (by simp [hl, Nat.add_mul]) (fun i hi => by
   have := hr (i + 1) (by omega);rw [List.drop_drop]
   rwa [show size + i * size = (i + 1) * size by rw [Nat.add_mul]; omega])
  refine ⟨m :: ms, by simp [h3], ?_, ?_⟩
  ·rw [List.flatMap_cons, ← h4, ← h1]
   simp
  ·intro x hx;simp at hx;rcases hx with rfl | hx
   ·exact h2
   ·exact h5 x hx
section
variable {H : Type} {enc : TypeId × Value → H} {w : World} {cs : List Value}
theorem Rd.bytes (h : Rd enc Tryz.prog w 27 cs) : ∃ (a : Option Addr) (n c : Nat) (l : List UInt8), cs = [.slice a n c] ∧ n = l.length ∧ (n ≤ 140737488355328 → BsAt w w.heap.size a n c l) := by
 obtain ⟨a, n, c, xs, rfl, hsl, hel⟩ := h.slice Tryz.underlying27 cells5 (by omega);have hlen : xs.length = n := by simpa using hsl.hlen
 have hint : ∀ i (hi : i < xs.length), ∃ z, xs[i] = .int .u8 z ∧ (Lit.int .u8 z).wf = true := by
  intro i hi;obtain ⟨z, h1, h2⟩ := (hel i (by omega)).int Tryz.underlying5;rw [Nat.mul_one, List.drop_eq_getElem_cons hi] at h1;simp only [List.take_succ_cons, List.take_zero, List.cons.injEq, and_true] at h1;exact ⟨z, h1, h2⟩
 have hz : ∃ zs : List Int, xs = zs.map (Value.int .u8) ∧ ∀ z ∈ zs, (Lit.int .u8 z).wf = true := by
  clear hsl hel hlen
  induction xs with
  | nil => exact ⟨[], rfl, by simp⟩
  | cons x xs ih =>
   obtain ⟨z, h1, h2⟩ := hint 0 (by simp);obtain ⟨zs, h3, h4⟩ := ih (fun i hi => by have := hint (i + 1) (by simpa using hi); simpa using this);simp at h1;exact ⟨z :: zs, by simp [h1, h3], by simpa using ⟨h2, h4⟩⟩
 obtain ⟨zs, rfl, hw⟩ := hz;obtain ⟨l, h1, h2⟩ := u8_bytes zs hw;rw [h1] at hsl;have hl : zs.length = n := by simpa using hlen
 exact ⟨a, n, c, l, rfl, by omega, fun hn => bsAt_of_slAt hsl hn⟩
end
end Go.Proofs.YtogcnfhmcpkdcaaGreat
namespace Go.Proofs.YtogcnfhmcpkdcaaGreat
open Go.ChangeShapes Go.WideShapes Go.ChangeAt Go.RowKit
set_option maxRecDepth 100000
set_option linter.unusedVariables false
set_option linter.unusedSimpArgs false
theorem cells60 : Tryz.prog.cellsOf 60 = 4 := by kernel_rfl
structure MStep where
 d : Int
 i : Int
 k : Int
 a : Option Addr
 c : Nat
 b : List UInt8
def MStep.cells (m : MStep) : List Value := [.int .i64 m.d, .int .i64 m.i, .int .i64 m.k, .slice m.a m.b.length m.c]
def cellsS (l : List MStep) : List Value := l.flatMap MStep.cells
def MStep.Is (w : World) (B : Nat) (m : MStep) : Prop := m.b.length ≤ 140737488355328 → BsAt w B m.a m.b.length m.c m.b
theorem cellsS_len (l : List MStep) : (cellsS l).length = l.length * 4 := by
 induction l with
 | nil => rfl
 | cons x l ih => simp only [cellsS, List.flatMap_cons, List.length_append, List.length_cons] at ih ⊢; rw [ih]; simp [MStep.cells]; omega
theorem cellsS_at : ∀ (l : List MStep) (i : Nat) (m : MStep), l[i]? = some m → ∀ j, j < 4 → (cellsS l)[i * 4 + j]? = m.cells[j]?
 | [], i, m, h, j, hj => by simp at h
 | y :: l, 0, m, h, j, hj => by
  simp at h; subst h;show (MStep.cells y ++ cellsS l)[0 * 4 + j]? = _;rw [List.getElem?_append_left (by simp [MStep.cells]; omega)]
  congr 1; omega
 | y :: l, i + 1, m, h, j, hj => by
  have h9 := cellsS_at l i m (by simpa using h) j hj;show (MStep.cells y ++ cellsS l)[(i + 1) * 4 + j]? = _;rw [List.getElem?_append_right (by simp [MStep.cells]; omega), ← h9]
  congr 1
  simp [MStep.cells]; omega
section
variable {H : Type} {enc : TypeId × Value → H} {w : World} {cs : List Value}
theorem Rd.step18 (h : Rd enc Tryz.prog w 60 cs) : ∃ m : MStep, cs = m.cells ∧ m.Is w w.heap.size := by
 obtain ⟨h1, h2⟩ := h.struct Tryz.underlying60;rw [cells60] at h1;have f0 : Rd enc Tryz.prog w 3 ((cs.drop 0).take (Tryz.prog.cellsOf 3)) := h2 0 _ rfl;have f1 : Rd enc Tryz.prog w 3 ((cs.drop 1).take (Tryz.prog.cellsOf 3)) := h2 1 _ rfl;have f2 : Rd enc Tryz.prog w 3 ((cs.drop 2).take (Tryz.prog.cellsOf 3)) := h2 2 _ rfl;have f3 : Rd enc Tryz.prog w 27 ((cs.drop 3).take (Tryz.prog.cellsOf 27)) := h2 3 _ rfl;rw [cells3] at f0 f1 f2;rw [cells27] at f3;obtain ⟨d, hd, _⟩ := f0.int Tryz.underlying3;obtain ⟨i, hi, _⟩ := f1.int Tryz.underlying3;obtain ⟨k, hk, _⟩ := f2.int Tryz.underlying3;obtain ⟨a, q, c, b, hb, rfl, hbs⟩ := f3.bytes
 match cs, h1 with
 | [x, y, z, v], _ =>
  simp at hd hi hk hb;subst hd hi hk hb;exact ⟨⟨d, i, k, a, c, b⟩, rfl, hbs⟩
theorem open_steps {v : Value} {d : DataW H} {ps : List MemPlace} {r : Reach} {base : Nat} (hok : Value.okWide Tryz.prog w r base 54 v)
  (h : DataW.Trod enc Tryz.prog w 0 (fun _ => true) true 54 v d ps) : ∃ (a : Option Addr) (c : Nat) (l : List MStep), v = .slice a l.length c ∧ SlAt w w.heap.size 4 a l.length c (cellsS l) ∧ ∀ m ∈ l, m.Is w w.heap.size := by
 obtain ⟨a, n, c, xs, rfl, hsl, hel⟩ := open_slAt hok h Tryz.underlying54 cells60 (by omega);obtain ⟨ms, h1, h2, h3⟩ := rows_of (fun _ h => Rd.step18 h) n xs hsl.hlen hel;subst h1;rw [← show cellsS ms = ms.flatMap MStep.cells from rfl] at h2;subst h2;exact ⟨a, c, ms, rfl, hsl, h3⟩
end
end Go.Proofs.YtogcnfhmcpkdcaaGreat
