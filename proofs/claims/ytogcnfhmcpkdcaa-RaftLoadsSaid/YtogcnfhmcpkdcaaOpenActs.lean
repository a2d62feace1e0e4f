/-
  Rows of items and of acts, opened.
-/
import Derived.Test.YtogcnfhmcpkdcaaItemMem
import Derived.Test.YtogcnfhmcpkdcaaOpenBR
namespace Go.Proofs.Ytogcnfhmcpkdcaa
open Go.ChangeShapes Go.WideShapes Go.ChangeAt Go.RowKit
set_option maxRecDepth 100000
set_option linter.unusedVariables false
set_option linter.unusedSimpArgs false

theorem cells45 : Try.prog.cellsOf 45 = 2 := by kernel_rfl
theorem cells49 : Try.prog.cellsOf 49 = 1 := by kernel_rfl
theorem cells90 : Try.prog.cellsOf 90 = 4 := by kernel_rfl

/-- what is known of an item that was read -/
structure ItRd (w : World) (B : Nat) (m : MItem) : Prop where
  ln : m.n = m.b.length
  bs : m.n ≤ 140737488355328 → m.Bs w B
theorem ItRd.below {w w' : World} {B B' : Nat} {m : MItem} (h : ItRd w B m) (hb : Below B' w w') (hB : B ≤ B') : ItRd w' B m := ⟨h.ln, fun hn => (h.bs hn).below hb hB⟩

theorem rows_of {α : Type} {size : Nat} {cell : α → List Value} {P : α → Prop} {R : List Value → Prop} (hR : ∀ cs, R cs → ∃ m, cs = cell m ∧ P m) :
    ∀ (n : Nat) (xs : List Value), xs.length = n * size → (∀ i, i < n → R ((xs.drop (i * size)).take size)) → ∃ ms : List α, ms.length = n ∧ xs = ms.flatMap cell ∧ ∀ m ∈ ms, P m := by
  intro n
  induction n with
  | zero => intro xs hl _; exact ⟨[], rfl, by simpa using hl, by simp⟩
  | succ n ih =>
    intro xs hl hr
    obtain ⟨m, h1, h2⟩ := hR _ (hr 0 (by omega))
    obtain ⟨ms, h3, h4, h5⟩ := ih (xs.drop size) (by simp [hl, Nat.add_mul]) (fun i hi => by
      have := hr (i + 1) (by omega)
      rw [List.drop_drop]
      rwa [show size + i * size = (i + 1) * size by rw [Nat.add_mul]; omega])
    refine ⟨m :: ms, by simp [h3], ?_, ?_⟩
    · rw [List.flatMap_cons, ← h4, ← h1]
      simp
    · intro x hx
      simp at hx
      rcases hx with rfl | hx
      · exact h2
      · exact h5 x hx
theorem cellsM_flat (ms : List MItem) : cellsM ms = ms.flatMap MItem.cells := by
  induction ms with
  | nil => rfl
  | cons m l ih => simp [cellsM, MItem.cells, ih]

/-- an act in memory -/
structure MAct where
  d : Int
  i : Int
  n : Int
  a : Option Addr
  c : Nat
  ms : List MItem
def MAct.cells (x : MAct) : List Value := [.int .i64 x.d, .int .i64 x.i, .int .i64 x.n, .slice x.a x.ms.length x.c]
def cellsA (l : List MAct) : List Value := l.flatMap MAct.cells
structure MAct.Is (w : World) (B : Nat) (x : MAct) : Prop where
  sl : SlAt w B 2 x.a x.ms.length x.c (cellsM x.ms)
  its : ∀ m ∈ x.ms, ItRd w B m
theorem MAct.Is.below {w w' : World} {B B' : Nat} {x : MAct} (h : x.Is w B) (hb : Below B' w w') (hB : B ≤ B') : x.Is w' B := ⟨h.sl.below hb hB, fun m hm => (h.its m hm).below hb hB⟩

theorem cellsA_len (l : List MAct) : (cellsA l).length = l.length * 4 := by
  induction l with
  | nil => rfl
  | cons x l ih => simp only [cellsA, List.flatMap_cons, List.length_append, List.length_cons] at ih ⊢; rw [ih]; simp [MAct.cells]; omega
theorem cellsA_at : ∀ (l : List MAct) (i : Nat) (x : MAct), l[i]? = some x → (cellsA l)[i * 4]? = some (.int .i64 x.d) ∧ (cellsA l)[i * 4 + 1]? = some (.int .i64 x.i) ∧ (cellsA l)[i * 4 + 2]? = some (.int .i64 x.n) ∧ (cellsA l)[i * 4 + 3]? = some (.slice x.a x.ms.length x.c)
  | [], i, x, h => by simp at h
  | y :: l, 0, x, h => by simp at h; subst h; exact ⟨rfl, rfl, rfl, rfl⟩
  | y :: l, i + 1, x, h => by
    have := cellsA_at l i x (by simpa using h)
    rw [show (i + 1) * 4 = i * 4 + 1 + 1 + 1 + 1 by omega]
    simpa [cellsA, MAct.cells] using this

section
variable {H : Type} {enc : TypeId × Value → H} {w : World} {cs : List Value}

theorem Rd.item (h : Rd enc Try.prog w 45 cs) : ∃ m : MItem, cs = m.cells ∧ ItRd w w.heap.size m := by
  obtain ⟨h1, h2⟩ := h.struct Try.underlying45
  rw [cells45] at h1
  have f0 : Rd enc Try.prog w 3 ((cs.drop 0).take (Try.prog.cellsOf 3)) := h2 0 _ rfl
  have f1 : Rd enc Try.prog w 22 ((cs.drop 1).take (Try.prog.cellsOf 22)) := h2 1 _ rfl
  rw [cells3] at f0
  rw [cells22] at f1
  obtain ⟨t, ht, _⟩ := f0.int Try.underlying3
  obtain ⟨a, n, c, b, hb, hn, hbs⟩ := f1.bytes
  match cs, h1 with
  | [x, y], _ =>
    simp at ht hb
    subst ht hb
    exact ⟨⟨t, a, n, c, b⟩, rfl, ⟨hn, hbs⟩⟩

theorem Rd.items (h : Rd enc Try.prog w 49 cs) : ∃ (a : Option Addr) (c : Nat) (ms : List MItem), cs = [.slice a ms.length c] ∧ SlAt w w.heap.size 2 a ms.length c (cellsM ms) ∧ ∀ m ∈ ms, ItRd w w.heap.size m := by
  obtain ⟨a, n, c, xs, rfl, hsl, hel⟩ := h.slice Try.underlying49 cells45 (by omega)
  obtain ⟨ms, h1, h2, h3⟩ := rows_of (fun _ h => Rd.item h) n xs hsl.hlen hel
  subst h1
  rw [← cellsM_flat] at h2
  subst h2
  exact ⟨a, c, ms, rfl, hsl, h3⟩

theorem Rd.act (h : Rd enc Try.prog w 90 cs) : ∃ x : MAct, cs = x.cells ∧ x.Is w w.heap.size := by
  obtain ⟨h1, h2⟩ := h.struct Try.underlying90
  rw [cells90] at h1
  have f0 : Rd enc Try.prog w 3 ((cs.drop 0).take (Try.prog.cellsOf 3)) := h2 0 _ rfl
  have f1 : Rd enc Try.prog w 3 ((cs.drop 1).take (Try.prog.cellsOf 3)) := h2 1 _ rfl
  have f2 : Rd enc Try.prog w 3 ((cs.drop 2).take (Try.prog.cellsOf 3)) := h2 2 _ rfl
  have f3 : Rd enc Try.prog w 49 ((cs.drop 3).take (Try.prog.cellsOf 49)) := h2 3 _ rfl
  rw [cells3] at f0 f1 f2
  rw [cells49] at f3
  obtain ⟨d, hd, _⟩ := f0.int Try.underlying3
  obtain ⟨i, hi, _⟩ := f1.int Try.underlying3
  obtain ⟨n, hn, _⟩ := f2.int Try.underlying3
  obtain ⟨a, c, ms, hs, hsl, hel⟩ := f3.items
  match cs, h1 with
  | [x, y, z, v], _ =>
    simp at hd hi hn hs
    subst hd hi hn hs
    exact ⟨⟨d, i, n, a, c, ms⟩, rfl, ⟨hsl, hel⟩⟩

theorem open_items {v : Value} {d : DataW H} {ps : List MemPlace} {r : Reach} {base : Nat} (hok : Value.okWide Try.prog w r base 49 v)
    (h : DataW.Trod enc Try.prog w 0 (fun _ => true) true 49 v d ps) : ∃ (a : Option Addr) (c : Nat) (ms : List MItem), v = .slice a ms.length c ∧ SlAt w w.heap.size 2 a ms.length c (cellsM ms) ∧ ∀ m ∈ ms, ItRd w w.heap.size m := by
  obtain ⟨a, n, c, xs, rfl, hsl, hel⟩ := open_slAt hok h Try.underlying49 cells45 (by omega)
  obtain ⟨ms, h1, h2, h3⟩ := rows_of (fun _ h => Rd.item h) n xs hsl.hlen hel
  subst h1
  rw [← cellsM_flat] at h2
  subst h2
  exact ⟨a, c, ms, rfl, hsl, h3⟩

theorem open_acts {v : Value} {d : DataW H} {ps : List MemPlace} {r : Reach} {base : Nat} (hok : Value.okWide Try.prog w r base 85 v)
    (h : DataW.Trod enc Try.prog w 0 (fun _ => true) true 85 v d ps) : ∃ (a : Option Addr) (c : Nat) (l : List MAct), v = .slice a l.length c ∧ SlAt w w.heap.size 4 a l.length c (cellsA l) ∧ ∀ x ∈ l, x.Is w w.heap.size := by
  obtain ⟨a, n, c, xs, rfl, hsl, hel⟩ := open_slAt hok h Try.underlying85 cells90 (by omega)
  obtain ⟨ms, h1, h2, h3⟩ := rows_of (fun _ h => Rd.act h) n xs hsl.hlen hel
  subst h1
  rw [← show cellsA ms = ms.flatMap MAct.cells from rfl] at h2
  subst h2
  exact ⟨a, c, ms, rfl, hsl, h3⟩
end
end Go.Proofs.Ytogcnfhmcpkdcaa
