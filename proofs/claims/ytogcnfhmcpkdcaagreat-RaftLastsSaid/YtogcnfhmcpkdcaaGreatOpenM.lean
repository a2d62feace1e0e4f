/-
  Bytes and a byte, opened.
  A row of bytes inside another value, opened.
  Rows of items and of acts, opened.
  A letter that came in, opened.
-/
import Derived.Test.YtogcnfhmcpkdcaaGreatRows
import Derived.Test.YtogcnfhmcpkdcaaGreatShelf
import Derived.Test.YtogcnfhmcpkdcaaGreatOpen
import Derived.Test.YtogcnfhmcpkdcaaGreatNumM
import Derived.Test.YtogcnfhmcpkdcaaGreatOpenB
import Derived.Test.YtogcnfhmcpkdcaaGreatSlMem
import Derived.Test.YtogcnfhmcpkdcaaGreatLetLaw
namespace Go.Proofs.YtogcnfhmcpkdcaaGreat
open Go.ChangeShapes Go.WideShapes Go.ChangeAt Go.RowKit
set_option maxRecDepth 100000

theorem u8_nat {z : Int} (h : (Lit.int .u8 z).wf = true) : ∃ n : Nat, z = (n : Int) ∧ n < 256 := by
  have hmin : IntKind.u8.min = 0 := rfl
  have hmax : IntKind.u8.max = 255 := rfl
  simp only [Lit.wf, Bool.and_eq_true, decide_eq_true_eq] at h
  exact ⟨z.toNat, by omega, by omega⟩

theorem u8_bytes : ∀ (zs : List Int), (∀ z ∈ zs, (Lit.int .u8 z).wf = true) → ∃ l : List UInt8, zs.map (Value.int .u8) = l.map bv ∧ zs.length = l.length
  | [], _ => ⟨[], rfl, rfl⟩
  | z :: zs, h => by
    obtain ⟨n, rfl, hn⟩ := u8_nat (h z (by simp))
    obtain ⟨l, h1, h2⟩ := u8_bytes zs (fun y hy => h y (by simp [hy]))
    refine ⟨UInt8.ofNat n :: l, ?_, by simp [h2]⟩
    simp only [List.map_cons, h1]
    congr 1
    simp [bv]
    omega

set_option maxRecDepth 100000 in
theorem open_bytes {H : Type} {enc : TypeId × Value → H} {w : World} {v : Value} {d : DataW H} {ps : List MemPlace} {r : Reach} {base : Nat}
    (hok : Value.okWide Tryz.prog w r base 27 v) (h : DataW.Trod enc Tryz.prog w 0 (fun _ => true) true 27 v d ps) :
    ∃ (a : Option Addr) (n c : Nat) (l : List UInt8), v = .slice a n c ∧ n = l.length ∧ (n ≤ 140737488355328 → BsAt w w.heap.size a n c l) := by
  obtain ⟨a, c, zs, rfl, hs, hw⟩ := open_ints_slAt hok h Tryz.underlying27 Tryz.underlying5 (by kernel_rfl)
  obtain ⟨l, h1, h2⟩ := u8_bytes zs hw
  rw [h1] at hs
  exact ⟨a, zs.length, c, l, rfl, h2, fun hn => bsAt_of_slAt hs hn⟩
end Go.Proofs.YtogcnfhmcpkdcaaGreat

namespace Go.Proofs.YtogcnfhmcpkdcaaGreat
open Go.ChangeShapes Go.WideShapes Go.ChangeAt Go.RowKit
set_option maxRecDepth 100000
set_option linter.unusedVariables false
set_option linter.unusedSimpArgs false

theorem cells5 : Tryz.prog.cellsOf 5 = 1 := by kernel_rfl
theorem cells27 : Tryz.prog.cellsOf 27 = 1 := by kernel_rfl

section
variable {H : Type} {enc : TypeId × Value → H} {w : World} {cs : List Value}

/-- a slice of bytes -/
theorem Rd.bytes (h : Rd enc Tryz.prog w 27 cs) : ∃ (a : Option Addr) (n c : Nat) (l : List UInt8), cs = [.slice a n c] ∧ n = l.length ∧ (n ≤ 140737488355328 → BsAt w w.heap.size a n c l) := by
  obtain ⟨a, n, c, xs, rfl, hsl, hel⟩ := h.slice Tryz.underlying27 cells5 (by omega)
  have hlen : xs.length = n := by simpa using hsl.hlen
  have hint : ∀ i (hi : i < xs.length), ∃ z, xs[i] = .int .u8 z ∧ (Lit.int .u8 z).wf = true := by
    intro i hi
    obtain ⟨z, h1, h2⟩ := (hel i (by omega)).int Tryz.underlying5
    rw [Nat.mul_one, List.drop_eq_getElem_cons hi] at h1
    simp only [List.take_succ_cons, List.take_zero, List.cons.injEq, and_true] at h1
    exact ⟨z, h1, h2⟩
  have hz : ∃ zs : List Int, xs = zs.map (Value.int .u8) ∧ ∀ z ∈ zs, (Lit.int .u8 z).wf = true := by
    clear hsl hel hlen
    induction xs with
    | nil => exact ⟨[], rfl, by simp⟩
    | cons x xs ih =>
      obtain ⟨z, h1, h2⟩ := hint 0 (by simp)
      obtain ⟨zs, h3, h4⟩ := ih (fun i hi => by have := hint (i + 1) (by simpa using hi); simpa using this)
      simp at h1
      exact ⟨z :: zs, by simp [h1, h3], by simpa using ⟨h2, h4⟩⟩
  obtain ⟨zs, rfl, hw⟩ := hz
  obtain ⟨l, h1, h2⟩ := u8_bytes zs hw
  rw [h1] at hsl
  have hl : zs.length = n := by simpa using hlen
  exact ⟨a, n, c, l, rfl, by omega, fun hn => bsAt_of_slAt hsl hn⟩

end
end Go.Proofs.YtogcnfhmcpkdcaaGreat

namespace Go.Proofs.YtogcnfhmcpkdcaaGreat
open Go.ChangeShapes Go.WideShapes Go.ChangeAt Go.RowKit
set_option maxRecDepth 100000
set_option linter.unusedVariables false
set_option linter.unusedSimpArgs false

theorem cells40 : Tryz.prog.cellsOf 40 = 2 := by kernel_rfl
theorem cells30 : Tryz.prog.cellsOf 30 = 1 := by kernel_rfl
/-- what is known of an item that was read -/
structure ItRd (w : World) (B : Nat) (m : MItem) : Prop where
  ln : m.n = m.b.length
  bs : m.n ≤ 140737488355328 → m.Bs w B
theorem ItRd.below {w w' : World} {B B' : Nat} {m : MItem} (h : ItRd w B m) (hb : Below B' w w') (hB : B ≤ B') : ItRd w' B m := ⟨h.ln, fun hn => (h.bs hn).below hb hB⟩

theorem rows_of {α : Type} {size : Nat} {cell : α → List Value} {P : α → Prop} {R : List Value → Prop} (hR : ∀ cs, R cs → ∃ m, cs = cell m ∧ P m) :
    ∀ (n : Nat) (xs : List Value), xs.length = n * size → (∀ i, i < n → R ((xs.drop (i * size)).take size)) → ∃ ms : List α, ms.length = n ∧ xs = ms.flatMap cell ∧ ∀ m ∈ ms, P m := by
  intro n
  induction n with
  | zero => intro xs hl _; exact ⟨[], rfl, by simpa using hl, by simp⟩
  | succ n ih =>
    intro xs hl hr
    obtain ⟨m, h1, h2⟩ := hR _ (hr 0 (by omega))
    obtain ⟨ms, h3, h4, h5⟩ := ih (xs.drop size) (by simp [hl, Nat.add_mul]) (fun i hi => by
      have := hr (i + 1) (by omega)
      rw [List.drop_drop]
      rwa [show size + i * size = (i + 1) * size by rw [Nat.add_mul]; omega])
    refine ⟨m :: ms, by simp [h3], ?_, ?_⟩
    · rw [List.flatMap_cons, ← h4, ← h1]
      simp
    · intro x hx
      simp at hx
      rcases hx with rfl | hx
      · exact h2
      · exact h5 x hx
theorem cellsM_flat (ms : List MItem) : cellsM ms = ms.flatMap MItem.cells := by
  induction ms with
  | nil => rfl
  | cons m l ih => simp [cellsM, MItem.cells, ih]

/-- an act in memory -/
structure MAct where
  d : Int
  i : Int
  n : Int
  a : Option Addr
  c : Nat
  ms : List MItem
def MAct.cells (x : MAct) : List Value := [.int .i64 x.d, .int .i64 x.i, .int .i64 x.n, .slice x.a x.ms.length x.c]
def cellsA (l : List MAct) : List Value := l.flatMap MAct.cells
structure MAct.Is (w : World) (B : Nat) (x : MAct) : Prop where
  sl : SlAt w B 2 x.a x.ms.length x.c (cellsM x.ms)
  its : ∀ m ∈ x.ms, ItRd w B m
theorem MAct.Is.below {w w' : World} {B B' : Nat} {x : MAct} (h : x.Is w B) (hb : Below B' w w') (hB : B ≤ B') : x.Is w' B := ⟨h.sl.below hb hB, fun m hm => (h.its m hm).below hb hB⟩

theorem cellsA_len (l : List MAct) : (cellsA l).length = l.length * 4 := by
  induction l with
  | nil => rfl
  | cons x l ih => simp only [cellsA, List.flatMap_cons, List.length_append, List.length_cons] at ih ⊢; rw [ih]; simp [MAct.cells]; omega
theorem cellsA_at : ∀ (l : List MAct) (i : Nat) (x : MAct), l[i]? = some x → (cellsA l)[i * 4]? = some (.int .i64 x.d) ∧ (cellsA l)[i * 4 + 1]? = some (.int .i64 x.i) ∧ (cellsA l)[i * 4 + 2]? = some (.int .i64 x.n) ∧ (cellsA l)[i * 4 + 3]? = some (.slice x.a x.ms.length x.c)
  | [], i, x, h => by simp at h
  | y :: l, 0, x, h => by simp at h; subst h; exact ⟨rfl, rfl, rfl, rfl⟩
  | y :: l, i + 1, x, h => by
    have := cellsA_at l i x (by simpa using h)
    rw [show (i + 1) * 4 = i * 4 + 1 + 1 + 1 + 1 by omega]
    simpa [cellsA, MAct.cells] using this

section
variable {H : Type} {enc : TypeId × Value → H} {w : World} {cs : List Value}

theorem Rd.item (h : Rd enc Tryz.prog w 40 cs) : ∃ m : MItem, cs = m.cells ∧ ItRd w w.heap.size m := by
  obtain ⟨h1, h2⟩ := h.struct Tryz.underlying40
  rw [cells40] at h1
  have f0 : Rd enc Tryz.prog w 3 ((cs.drop 0).take (Tryz.prog.cellsOf 3)) := h2 0 _ rfl
  have f1 : Rd enc Tryz.prog w 27 ((cs.drop 1).take (Tryz.prog.cellsOf 27)) := h2 1 _ rfl
  rw [cells3] at f0
  rw [cells27] at f1
  obtain ⟨t, ht, _⟩ := f0.int Tryz.underlying3
  obtain ⟨a, n, c, b, hb, hn, hbs⟩ := f1.bytes
  match cs, h1 with
  | [x, y], _ =>
    simp at ht hb
    subst ht hb
    exact ⟨⟨t, a, n, c, b⟩, rfl, ⟨hn, hbs⟩⟩

theorem Rd.items (h : Rd enc Tryz.prog w 30 cs) : ∃ (a : Option Addr) (c : Nat) (ms : List MItem), cs = [.slice a ms.length c] ∧ SlAt w w.heap.size 2 a ms.length c (cellsM ms) ∧ ∀ m ∈ ms, ItRd w w.heap.size m := by
  obtain ⟨a, n, c, xs, rfl, hsl, hel⟩ := h.slice Tryz.underlying30 cells40 (by omega)
  obtain ⟨ms, h1, h2, h3⟩ := rows_of (fun _ h => Rd.item h) n xs hsl.hlen hel
  subst h1
  rw [← cellsM_flat] at h2
  subst h2
  exact ⟨a, c, ms, rfl, hsl, h3⟩

theorem open_items {v : Value} {d : DataW H} {ps : List MemPlace} {r : Reach} {base : Nat} (hok : Value.okWide Tryz.prog w r base 30 v)
    (h : DataW.Trod enc Tryz.prog w 0 (fun _ => true) true 30 v d ps) : ∃ (a : Option Addr) (c : Nat) (ms : List MItem), v = .slice a ms.length c ∧ SlAt w w.heap.size 2 a ms.length c (cellsM ms) ∧ ∀ m ∈ ms, ItRd w w.heap.size m := by
  obtain ⟨a, n, c, xs, rfl, hsl, hel⟩ := open_slAt hok h Tryz.underlying30 cells40 (by omega)
  obtain ⟨ms, h1, h2, h3⟩ := rows_of (fun _ h => Rd.item h) n xs hsl.hlen hel
  subst h1
  rw [← cellsM_flat] at h2
  subst h2
  exact ⟨a, c, ms, rfl, hsl, h3⟩

end
end Go.Proofs.YtogcnfhmcpkdcaaGreat

namespace Go.Proofs.YtogcnfhmcpkdcaaGreat
open Go.ChangeShapes Go.WideShapes Go.ChangeAt Go.RowKit
set_option maxRecDepth 100000
set_option linter.unusedVariables false
set_option linter.unusedSimpArgs false

theorem cells32 : Tryz.prog.cellsOf 32 = 8 := by kernel_rfl

/-- a letter that was read: its parts, as far as they are not too great -/
structure LetRdAt (w : World) (B : Nat) (x : PLet) (ia : Option Addr) (ic : Nat) (ms : List MItem) (ba : Option Addr) (bc : Nat) : Prop where
  sl : SlAt w B 2 ia ms.length ic (cellsM ms)
  its : ∀ m ∈ ms, ItRd w B m
  eq : ms.map MItem.it = x.its
  b : x.b.length ≤ 140737488355328 → BsAt w B ba x.b.length bc x.b
theorem LetRdAt.below {w w' : World} {B B' : Nat} {x : PLet} {ia : Option Addr} {ic : Nat} {ms : List MItem} {ba : Option Addr} {bc : Nat} (h : LetRdAt w B x ia ic ms ba bc) (hb : Below B' w w') (hB : B ≤ B') : LetRdAt w' B x ia ic ms ba bc :=
  ⟨h.sl.below hb hB, fun m hm => (h.its m hm).below hb hB, h.eq, fun hn => (h.b hn).below hb hB⟩
/-- one that is not great is in memory -/
theorem LetRdAt.at {w : World} {B : Nat} {x : PLet} {ia : Option Addr} {ic : Nat} {ms : List MItem} {ba : Option Addr} {bc : Nat} (h : LetRdAt w B x ia ic ms ba bc) (hm : ∀ m ∈ ms, m.b.length ≤ 200) (hb : x.b.length ≤ 300) : LetAt w B x ia ic ms ba bc :=
  ⟨⟨h.sl, fun m h9 => (h.its m h9).bs (by rw [(h.its m h9).ln]; have := hm m h9; omega)⟩, h.eq, h.b (by omega)⟩

theorem list8 {α : Type} {l : List α} (h : l.length = 8) : ∃ a b c d e f g i, l = [a, b, c, d, e, f, g, i] := by
  match l, h with
  | [a, b, c, d, e, f, g, i], _ => exact ⟨a, b, c, d, e, f, g, i, rfl⟩

section
variable {H : Type} {enc : TypeId × Value → H} {w : World} {cs : List Value}

theorem Rd.letter (h : Rd enc Tryz.prog w 32 cs) : ∃ (x : PLet) (ia : Option Addr) (ic : Nat) (ms : List MItem) (ba : Option Addr) (bc : Nat), cs = (lcell x ia ms.length ic ba bc).toList ∧ LetRdAt w w.heap.size x ia ic ms ba bc := by
  obtain ⟨h1, h2⟩ := h.struct Tryz.underlying32
  rw [cells32] at h1
  have f0 : Rd enc Tryz.prog w 3 ((cs.drop 0).take (Tryz.prog.cellsOf 3)) := h2 0 _ rfl
  have f1 : Rd enc Tryz.prog w 3 ((cs.drop 1).take (Tryz.prog.cellsOf 3)) := h2 1 _ rfl
  have f2 : Rd enc Tryz.prog w 3 ((cs.drop 2).take (Tryz.prog.cellsOf 3)) := h2 2 _ rfl
  have f3 : Rd enc Tryz.prog w 3 ((cs.drop 3).take (Tryz.prog.cellsOf 3)) := h2 3 _ rfl
  have f4 : Rd enc Tryz.prog w 3 ((cs.drop 4).take (Tryz.prog.cellsOf 3)) := h2 4 _ rfl
  have f5 : Rd enc Tryz.prog w 4 ((cs.drop 5).take (Tryz.prog.cellsOf 4)) := h2 5 _ rfl
  have f6 : Rd enc Tryz.prog w 30 ((cs.drop 6).take (Tryz.prog.cellsOf 30)) := h2 6 _ rfl
  have f7 : Rd enc Tryz.prog w 27 ((cs.drop 7).take (Tryz.prog.cellsOf 27)) := h2 7 _ rfl
  rw [cells3] at f0 f1 f2 f3 f4
  rw [cells4] at f5
  rw [cells30] at f6
  rw [cells27] at f7
  obtain ⟨k, hk, _⟩ := f0.int Tryz.underlying3
  obtain ⟨t, ht, _⟩ := f1.int Tryz.underlying3
  obtain ⟨a, ha, _⟩ := f2.int Tryz.underlying3
  obtain ⟨u, hu, _⟩ := f3.int Tryz.underlying3
  obtain ⟨o, ho, _⟩ := f4.int Tryz.underlying3
  obtain ⟨y, hy⟩ := f5.bool Tryz.underlying4
  obtain ⟨ia, ic, ms, hs, hsl, hel⟩ := f6.items
  obtain ⟨ba, n, bc, b, hb, rfl, hbs⟩ := f7.bytes
  obtain ⟨c0, c1, c2, c3, c4, c5, c6, c7, rfl⟩ := list8 h1
  simp at hk ht ha hu ho hy hs hb
  subst hk ht ha hu ho hy hs hb
  exact ⟨⟨k, t, a, u, o, y, ms.map MItem.it, b⟩, ia, ic, ms, ba, bc, rfl, ⟨hsl, hel, rfl, hbs⟩⟩

theorem open_letter {v : Value} {d : DataW H} {ps : List MemPlace} {r : Reach} {base : Nat} (hok : Value.okWide Tryz.prog w r base 32 v)
    (h : DataW.Trod enc Tryz.prog w 0 (fun _ => true) true 32 v d ps) : ∃ (x : PLet) (ia : Option Addr) (ic : Nat) (ms : List MItem) (ba : Option Addr) (bc : Nat), v = .agg (lcell x ia ms.length ic ba bc) ∧ LetRdAt w w.heap.size x ia ic ms ba bc := by
  obtain ⟨cs, rfl⟩ := open_agg hok Tryz.underlying32
  obtain ⟨x, ia, ic, ms, ba, bc, h1, h2⟩ := (Rd.of h).letter
  simp only [Value.cells] at h1
  refine ⟨x, ia, ic, ms, ba, bc, ?_, h2⟩
  cases cs
  simp only at h1
  rw [h1]
end
end Go.Proofs.YtogcnfhmcpkdcaaGreat
