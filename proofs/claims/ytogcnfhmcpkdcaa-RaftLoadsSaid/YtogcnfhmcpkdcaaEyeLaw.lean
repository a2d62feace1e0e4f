/-
  An eye in memory: the cell that holds what is left, and what a reading leaves as it was. No program in sight.
-/
import Derived.Test.YtogcnfhmcpkdcaaNumM
import Derived.Laws.Tables
namespace Go.Proofs.Ytogcnfhmcpkdcaa
open Go.RowKit
set_option linter.unusedVariables false

/-- the eye at block q has these bytes left -/
def EyeAt (w : World) (q : Nat) (l : List UInt8) : Prop :=
  q < w.heap.size ∧ ∃ a n c, w.cell? ⟨q, 0, none⟩ = some (.slice a n c) ∧ w.frozen? ⟨q, 0, none⟩ = false ∧ BsAt w q a n c l

/-- all that was there is as it was but the cell of the eye at block q -/
structure But (q : Nat) (w w' : World) : Prop where
  os : w'.os = w.os
  tape : w'.tape = w.tape
  output : w'.output = w.output
  size : w.heap.size ≤ w'.heap.size
  block : ∀ k, k < w.heap.size → k ≠ q → w'.heap[k]? = w.heap[k]?
  cell : ∀ o e, 0 < o → w'.cell? ⟨q, o, e⟩ = w.cell? ⟨q, o, e⟩

theorem But.refl (q : Nat) (w : World) : But q w w := ⟨rfl, rfl, rfl, Nat.le_refl _, fun _ _ _ => rfl, fun _ _ _ => rfl⟩

theorem But.trans {q : Nat} {a b c : World} (h : But q a b) (k : But q b c) : But q a c :=
  ⟨k.os.trans h.os, k.tape.trans h.tape, k.output.trans h.output, Nat.le_trans h.size k.size, fun i hi hq => (k.block i (Nat.lt_of_lt_of_le hi h.size) hq).trans (h.block i hi hq), fun o e ho => (k.cell o e ho).trans (h.cell o e ho)⟩

theorem But.ofBelow {q : Nat} {w w' : World} (hq : q < w.heap.size) (h : Below w.heap.size w w') : But q w w' :=
  ⟨h.os, h.tape, h.output, h.size, fun k hk _ => h.block k hk, fun o e _ => h.cell (p := ⟨q, o, e⟩) hq⟩

theorem But.below {q N : Nat} {w w' : World} (h : But q w w') (hq : N ≤ q) (hs : q < w.heap.size) : Below N w w' :=
  ⟨h.os, h.tape, h.output, h.size, fun k hk => h.block k (by omega) (by omega)⟩

/-- behind it what is new alone is turned -/
theorem But.andBelow {q : Nat} {w w1 w2 : World} (h : But q w w1) (hq : q < w.heap.size) (k : Below w.heap.size w1 w2) : But q w w2 :=
  ⟨k.os.trans h.os, k.tape.trans h.tape, k.output.trans h.output, Nat.le_trans h.size k.size, fun i hi hne => (k.block i hi).trans (h.block i hi hne), fun o e ho => (k.cell (p := ⟨q, o, e⟩) hq).trans (h.cell o e ho)⟩

theorem But.setCell (w : World) (q : Nat) (v : Value) : But q w (w.setCell ⟨q, 0, none⟩ v) :=
  ⟨rfl, rfl, rfl, by simp, fun k _ hq => Below.heap_setCell w _ v k hq, fun o e ho => World.cell?_setCell_other _ _ _ _ (by intro e2; injection e2 with e3 e4; omega)⟩

theorem BsAt.but {w w' : World} {B q : Nat} {a : Option Addr} {n c : Nat} {l r : List UInt8} (h : BsAt w B a n c l) (he : EyeAt w q r) (hb : But q w w') (hB : B ≤ w.heap.size) : BsAt w' B a n c l :=
  ⟨h.hlen, h.hle, h.hmax, h.hnil, h.hbig, fun hp => let ⟨b, o, e, hl, hc⟩ := h.hat hp; ⟨b, o, e, hl, fun i hi => by
    have h1 := hc i hi
    rw [← h1]
    by_cases hq : b = q
    · subst hq
      by_cases ho : 0 < o + i
      · exact hb.cell _ _ ho
      · obtain ⟨_, _, _, _, hcell, _, _⟩ := he
        have : o + i = 0 := by omega
        rw [this, hcell] at h1
        cases h1
    · exact World.cell?_of_block (a := ⟨b, o + i, none⟩) (hb.block b (by omega) hq)⟩⟩

/-- cells beside the eye's read as ahead -/
theorem But.cells {q : Nat} {w w' : World} (h : But q w w') : (∀ b o, b < w.heap.size → b ≠ q → w'.cell? ⟨b, o, none⟩ = w.cell? ⟨b, o, none⟩) ∧ (∀ b o, b < w.heap.size → b ≠ q → w'.frozen? ⟨b, o, none⟩ = w.frozen? ⟨b, o, none⟩) :=
  ⟨fun b o hb hq => World.cell?_of_block (h.block b hb hq), fun b o hb hq => World.frozen?_of_block (h.block b hb hq)⟩

/-- what is laid into a whole block from B on -/
theorem below_setRow {B g : Nat} (w : World) (cs : Array Value) (hg : B ≤ g) : Below B w (w.setRow g cs) :=
  ⟨rfl, rfl, rfl, by simp, fun k hk => setRow_other _ _ _ _ (by omega)⟩

/-- the eye behind what leaves it, and what lies below it, alone -/
theorem EyeAt.keep {w w' : World} {q : Nat} {l : List UInt8} (h : EyeAt w q l) (hb : Below (q + 1) w w') : EyeAt w' q l := by
  obtain ⟨hq, a, n, c, h1, h2, h3⟩ := h
  exact ⟨Nat.lt_of_lt_of_le hq hb.size, a, n, c, by rw [hb.cell (p := ⟨q, 0, none⟩) (by show q < q + 1; omega)]; exact h1, by rw [hb.frozen (p := ⟨q, 0, none⟩) (by show q < q + 1; omega)]; exact h2, h3.below hb (by omega)⟩

/-- the eye behind what leaves it alone -/
theorem EyeAt.below {w w' : World} {q : Nat} {l : List UInt8} (h : EyeAt w q l) (hb : Below w.heap.size w w') : EyeAt w' q l := by
  obtain ⟨hq, a, n, c, h1, h2, h3⟩ := h
  exact ⟨Nat.lt_of_lt_of_le hq hb.size, a, n, c, by rw [hb.cell (p := ⟨q, 0, none⟩) hq]; exact h1, by rw [hb.frozen (p := ⟨q, 0, none⟩) hq]; exact h2, h3.below hb (Nat.le_of_lt hq)⟩

theorem EyeAt.setCell {w : World} {q : Nat} {l r : List UInt8} (h : EyeAt w q l) {a : Option Addr} {n c : Nat} (hr : BsAt w q a n c r) : EyeAt (w.setCell ⟨q, 0, none⟩ (.slice a n c)) q r := by
  obtain ⟨hq, a', n', c', h1, h2, h3⟩ := h
  exact ⟨by simpa using hq, a, n, c, World.cell?_setCell_same _ _ _ h1, by simpa using h2, hr.setCell h1 _⟩
end Go.Proofs.Ytogcnfhmcpkdcaa
