/-
  Rows of Gots in memory. No code is walked.
-/
import Derived.Test.YtogcnfhmcpkdcaaBuildLaw
import Derived.Test.YtogcnfhmcpkdcaaFields3
namespace Go.Proofs.Ytogcnfhmcpkdcaa
open Go.RowKit
set_option linter.unusedVariables false
set_option linter.unusedSimpArgs false

/-- a Got in memory -/
structure MG where
  g : PGot
  a : Option Addr
  c : Nat
  a' : Option Addr
  c' : Nat
def MG.cells (m : MG) : List Value := gotCells m.g.k m.g.n (.slice m.a m.g.t.length m.c) m.g.d m.g.e (.slice m.a' m.g.left.length m.c')
def cellsG : List MG → List Value
  | [] => []
  | m :: r => m.cells ++ cellsG r
structure MG.Is (w : World) (B : Nat) (m : MG) : Prop where
  d32 : m.g.d.length = 32
  tx : BsAt w B m.a m.g.t.length m.c m.g.t
  lf : BsAt w B m.a' m.g.left.length m.c' m.g.left

theorem MG.Is.below {w w' : World} {B B' : Nat} {m : MG} (h : m.Is w B) (hb : Below B' w w') (hB : B ≤ B') : m.Is w' B := ⟨h.d32, h.tx.below hb hB, h.lf.below hb hB⟩
theorem MG.Is.mono {w : World} {B B' : Nat} {m : MG} (h : m.Is w B) (hB : B ≤ B') : m.Is w B' := ⟨h.d32, h.tx.mono hB, h.lf.mono hB⟩
theorem MG.cells_len {m : MG} (h : m.g.d.length = 32) : m.cells.length = 37 := gotCells_len _ _ _ _ _ _ h

theorem cellsG_append (l r : List MG) : cellsG (l ++ r) = cellsG l ++ cellsG r := by
  induction l with
  | nil => rfl
  | cons m l ih => simp [cellsG, ih]
theorem cellsG_len : ∀ (ms : List MG), (∀ m ∈ ms, m.g.d.length = 32) → (cellsG ms).length = ms.length * 37
  | [], _ => rfl
  | m :: r, h => by
    have h1 := cellsG_len r (fun x hx => h x (by simp [hx]))
    have h2 := MG.cells_len (h m (by simp))
    simp only [cellsG, List.length_append, h1, h2, List.length_cons]
    omega
theorem cellsG_at : ∀ (ms : List MG), (∀ m ∈ ms, m.g.d.length = 32) → ∀ (i : Nat) (m : MG), ms[i]? = some m → ∀ j, j < 37 → (cellsG ms)[i * 37 + j]? = m.cells[j]?
  | [], _, i, m, h, j, hj => by simp at h
  | x :: r, hd, 0, m, h, j, hj => by
    simp at h
    subst h
    have h2 := MG.cells_len (hd x (by simp))
    simp only [cellsG]
    rw [List.getElem?_append_left (by omega)]
    simp
  | x :: r, hd, i + 1, m, h, j, hj => by
    have hl := MG.cells_len (hd x (by simp))
    have := cellsG_at r (fun y hy => hd y (by simp [hy])) i m (by simpa using h) j hj
    simp only [cellsG]
    rw [List.getElem?_append_right (by omega), hl, show (i + 1) * 37 + j - 37 = i * 37 + j by omega]
    exact this
theorem cellsG_one (ms : List MG) : ∀ u ∈ cellsG ms, u.oneCell' = true := by
  induction ms with
  | nil => intro u hu; simp [cellsG] at hu
  | cons m l ih =>
    intro u hu
    simp only [cellsG, List.mem_append] at hu
    rcases hu with hu | hu
    · have := gotCells_one m.g.k m.g.n m.a m.g.t.length m.c m.g.d m.g.e m.a' m.g.left.length m.c'
      exact (Array.all_eq_true_iff_forall_mem.1 this) u (by simpa [MG.cells] using hu)
    · exact ih u hu

/-- the slice reads as these Gots, all of it below B -/
structure GotsAt (w : World) (B : Nat) (a : Option Addr) (c : Nat) (ms : List MG) : Prop where
  sl : SlAt w B 37 a ms.length c (cellsG ms)
  is : ∀ m ∈ ms, m.Is w B

theorem GotsAt.below {w w' : World} {B B' : Nat} {a : Option Addr} {c : Nat} {ms : List MG} (h : GotsAt w B a c ms) (hb : Below B' w w') (hB : B ≤ B') : GotsAt w' B a c ms :=
  ⟨h.sl.below hb hB, fun m hm => (h.is m hm).below hb hB⟩
theorem GotsAt.mono {w : World} {B B' : Nat} {a : Option Addr} {c : Nat} {ms : List MG} (h : GotsAt w B a c ms) (hB : B ≤ B') : GotsAt w B' a c ms :=
  ⟨h.sl.mono hB, fun m hm => (h.is m hm).mono hB⟩

/-- the Got at a place -/
theorem GotsAt.at_ {w : World} {B : Nat} {a : Option Addr} {c : Nat} {ms : List MG} (h : GotsAt w B a c ms) {i : Nat} {m : MG} (hi : ms[i]? = some m) :
    ∃ b o, a = some ⟨b, o, none⟩ ∧ b < B ∧ w.cell? ⟨b, o + i * 37 + 1, none⟩ = some (.int .u64 m.g.n) ∧ w.cell? ⟨b, o + i * 37 + 2, none⟩ = some (.slice m.a m.g.t.length m.c) ∧ w.rangeAt b (o + i * 37 + 3) (m.g.d.map bv) ∧ w.cell? ⟨b, o + i * 37 + 36, none⟩ = some (.slice m.a' m.g.left.length m.c') := by
  have hl : i < ms.length := (List.getElem?_eq_some_iff.1 hi).1
  have hm : m ∈ ms := List.mem_of_getElem? hi
  have hd : ∀ x ∈ ms, x.g.d.length = 32 := fun x hx => (h.is x hx).d32
  have hlen := cellsG_len ms hd
  obtain ⟨b, o, e, hb, hc⟩ := h.sl.hat (by omega)
  have hml := MG.cells_len (hd m hm)
  have hr : ∀ j v, m.cells[j]? = some v → w.cell? ⟨b, o + i * 37 + j, none⟩ = some v := by
    intro j v hj
    have hj' : j < 37 := by rw [← hml]; exact (List.getElem?_eq_some_iff.1 hj).1
    rw [Nat.add_assoc, hc _ (by omega), cellsG_at ms hd i m hi j hj']
    exact hj
  refine ⟨b, o, e, hb, hr 1 _ rfl, hr 2 _ rfl, fun j v hj => ?_, hr 36 _ (gotCells_l _ _ _ _ _ _ (hd m hm))⟩
  have := hr (3 + j) v (by
    unfold MG.cells gotCells
    rw [Nat.add_comm 3 j]
    simp only [List.getElem?_cons_succ]
    rw [List.getElem?_append_left ((List.getElem?_eq_some_iff.1 hj).1)]
    exact hj)
  rwa [← Nat.add_assoc] at this

/-- what is turned: the blocks q and p, and what is new -/
structure Two (q p : Nat) (w w' : World) : Prop where
  os : w'.os = w.os
  tape : w'.tape = w.tape
  output : w'.output = w.output
  size : w.heap.size ≤ w'.heap.size
  block : ∀ k, k < w.heap.size → k ≠ q → k ≠ p → w'.heap[k]? = w.heap[k]?
theorem Two.refl (q p : Nat) (w : World) : Two q p w w := ⟨rfl, rfl, rfl, Nat.le_refl _, fun _ _ _ _ => rfl⟩
theorem Two.ofBut {q p : Nat} {w w' : World} (h : But q w w') : Two q p w w' := ⟨h.os, h.tape, h.output, h.size, fun k hk hq _ => h.block k hk hq⟩
theorem Two.trans {q p : Nat} {a b c : World} (h : Two q p a b) (k : Two q p b c) : Two q p a c :=
  ⟨k.os.trans h.os, k.tape.trans h.tape, k.output.trans h.output, Nat.le_trans h.size k.size, fun i hi h1 h2 => (k.block i (Nat.lt_of_lt_of_le hi h.size) h1 h2).trans (h.block i hi h1 h2)⟩
theorem Two.below {q p B : Nat} {w w' : World} (h : Two q p w w') (hq : B ≤ q) (hp : B ≤ p) (hs : B ≤ w.heap.size) : Below B w w' :=
  ⟨h.os, h.tape, h.output, h.size, fun k hk => h.block k (by omega) (by omega) (by omega)⟩
theorem Two.set {q p o : Nat} (w : World) (v : Value) : Two q p w (w.setCell ⟨p, o, none⟩ v) :=
  ⟨rfl, rfl, rfl, by simp, fun k _ _ h2 => Below.heap_setCell _ _ _ k h2⟩
end Go.Proofs.Ytogcnfhmcpkdcaa
