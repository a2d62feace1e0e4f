/-
  A pen in memory: the cell that holds its bytes, the row that it owns, and what a writing leaves as it was. No program in sight.
-/
import Derived.Test.YtogcnfhmcpkdcaaGreatEyeM
import Derived.Deep.Onto
import Derived.RangeFuncWrites
namespace Go.Proofs.YtogcnfhmcpkdcaaGreat
open Go.RowKit
set_option linter.unusedVariables false
structure PenAt (U8 : TypeId) (w : World) (q : Nat) (v : Value) (l : List UInt8) : Prop where
 lt : q < w.heap.size
 cell : w.cell? ⟨q, 0, none⟩ = some v
 free : w.frozen? ⟨q, 0, none⟩ = false
 own : w.ownsRow (q + 1) U8 1 v l.length (l.map bv)
structure Penned (q : Nat) (v : Value) (w w' : World) (v' : Value) : Prop where
 os : w'.os = w.os
 tape : w'.tape = w.tape
 output : w'.output = w.output
 size : w.heap.size ≤ w'.heap.size
 block : ∀ k, k < w.heap.size → k ≠ q → v.ownBlock ≠ some k → w'.heap[k]? = w.heap[k]?
 row : v'.ownBlock = v.ownBlock ∨ ∃ g, v'.ownBlock = some g ∧ w.heap.size ≤ g
theorem Penned.refl (q : Nat) (v : Value) (w : World) : Penned q v w w v := ⟨rfl, rfl, rfl, Nat.le_refl _, fun _ _ _ _ => rfl, .inl rfl⟩
theorem Penned.trans {q : Nat} {v v1 v2 : Value} {a b c : World} (h : Penned q v a b v1) (k : Penned q v1 b c v2) : Penned q v a c v2 := by
 refine ⟨k.os.trans h.os, k.tape.trans h.tape, k.output.trans h.output, Nat.le_trans h.size k.size, fun i hi hq hv => (k.block i (Nat.lt_of_lt_of_le hi h.size) hq ?_).trans (h.block i hi hq hv), ?_⟩
 ·rcases h.row with e | ⟨g, e, hg⟩
  ·rw [e]; exact hv
  ·rw [e]; intro e2; injection e2 with e3; omega
 ·rcases k.row with e | ⟨g, e, hg⟩
  ·rw [e]; exact h.row
  ·exact .inr ⟨g, e, Nat.le_trans h.size hg⟩
theorem Penned.below {q N : Nat} {U8 : TypeId} {v v' : Value} {l : List UInt8} {w w' : World} (h : Penned q v w w' v') (hp : PenAt U8 w q v l) (hN : N ≤ q) : Below N w w' := by
 refine ⟨h.os, h.tape, h.output, h.size, fun k hk => h.block k (by have := hp.lt; omega) (by omega) ?_⟩;intro e;rcases hp.own.2 with ⟨rfl, _⟩ | ⟨g, cap, cur, rfl, hb, _⟩
 ·simp [Value.ownBlock] at e
 ·simp [Value.ownBlock] at e; omega
theorem Penned.ofBelow {q : Nat} {v : Value} {w w' : World} (h : Below w.heap.size w w') : Penned q v w w' v := ⟨h.os, h.tape, h.output, h.size, fun k hk _ _ => h.block k hk, .inl rfl⟩
theorem own_lt {w : World} {base e size n : Nat} {v : Value} {xs : List Value} (h : w.ownsRow base e size v n xs) {g : Nat} (hg : v.ownBlock = some g) : base ≤ g ∧ g < w.heap.size := by
 rcases h.2 with ⟨rfl, _⟩ | ⟨g', cap, cur, rfl, hb, hh, _⟩
 ·simp [Value.ownBlock] at hg
 ·simp [Value.ownBlock] at hg; subst hg;exact ⟨hb, (Array.getElem?_eq_some_iff.1 hh).1⟩
theorem PenAt.below {U8 : TypeId} {w w' : World} {q : Nat} {v : Value} {l : List UInt8} (h : PenAt U8 w q v l) (hb : Below w.heap.size w w') : PenAt U8 w' q v l := by
 refine ⟨Nat.lt_of_lt_of_le h.lt hb.size, by rw [hb.cell (p := ⟨q, 0, none⟩) h.lt]; exact h.cell, by rw [hb.frozen (p := ⟨q, 0, none⟩) h.lt]; exact h.free, h.own.1, ?_⟩;rcases h.own.2 with ⟨rfl, hn⟩ | ⟨g, cap, cur, rfl, h1, h2, h3, h4, h5, h6⟩
 ·exact .inl ⟨rfl, hn⟩
 ·exact .inr ⟨g, cap, cur, rfl, h1, (hb.block g (Array.getElem?_eq_some_iff.1 h2).1).trans h2, h3, h4, h5, h6⟩
theorem le_len (k : Nat) : ∀ n, n < 256 ^ k → (le n).length ≤ k := by
 induction k with
 | zero => intro n h; have : n = 0 := by simpa using h
           subst this; simp [le_zero]
 | succ k ih =>
  intro n h;by_cases h0 : n = 0
  ·subst h0; simp [le_zero]
  ·rw [le_pos (by omega)];have := ih (n / 256) (by rw [Nat.pow_succ] at h; omega)
   simp; omega
theorem le_len8 {n : Nat} (h : n < 18446744073709551616) : (le n).length ≤ 8 := le_len 8 n (by omega)
structure MidNum (U8 : TypeId) (q : Nat) (v : Value) (w wc : World) (u : Value) (xs l : List UInt8) (v' : Value) : Prop where
 pen : PenAt U8 wc q v' l
 to : Penned q v w wc v'
 box : wc.cell? ⟨w.heap.size, 0, none⟩ = some (.pointer (some ⟨q, 0, none⟩))
 row : wc.ownsRow (w.heap.size + 1) U8 1 u xs.length (xs.map bv)
 far : ∀ g, v'.ownBlock = some g → g ≠ w.heap.size ∧ u.ownBlock ≠ some g
theorem row_grown {U8 : TypeId} {A B : World} {base n : Nat} {u : Value} {xs : List Value} {row : Option Nat} (h : A.ownsRow base U8 1 u n xs) (hg : A.grownBy B row) (hne : ∀ g, u.ownBlock = some g → row ≠ some g) : B.ownsRow base U8 1 u n xs := by
 refine ⟨h.1, ?_⟩;rcases h.2 with ⟨rfl, hn⟩ | ⟨g, cap, cur, rfl, h1, h2, h3, h4, h5, h6⟩
 ·exact .inl ⟨rfl, hn⟩
 ·exact .inr ⟨g, cap, cur, rfl, h1, (hg.block g (Array.getElem?_eq_some_iff.1 h2).1 (fun e => hne g rfl e.symm)).trans h2, h3, h4, h5, h6⟩
theorem MidNum.kept {U8 : TypeId} {q : Nat} {v : Value} {w W W' : World} {u : Value} {xs l : List UInt8} {v1 : Value} {row : Option Nat} (h : MidNum U8 q v w W u xs l v1) (hg : W.grownBy W' row) (hr : ∀ r, row = some r → w.heap.size ≤ r ∧ ∃ o : Obj, W.heap[r]? = some o ∧ o.isCells = false) : MidNum U8 q v w W' u xs l v1 := by
 have hr2 : ∀ r, row = some r → ∃ o : Obj, W.heap[r]? = some o ∧ o.isCells = false := fun r e => (hr r e).2
 have hrow : ∀ {base n : Nat} {u : Value} {xs : List Value}, W.ownsRow base U8 1 u n xs → W'.ownsRow base U8 1 u n xs := fun {base n u xs} ho => by
  refine ⟨ho.1, ?_⟩;rcases ho.2 with ⟨e, hn⟩ | ⟨g, cap, cur, e, h1, h2, h3, h4, h5, h6⟩
  ·exact .inl ⟨e, hn⟩
  ·refine .inr ⟨g, cap, cur, e, h1, (hg.block g (Array.getElem?_eq_some_iff.1 h2).1 (fun e2 => ?_)).trans h2, h3, h4, h5, h6⟩;obtain ⟨o, ho1, ho2⟩ := hr2 g e2.symm;rw [h2] at ho1; cases ho1; cases ho2
 refine ⟨⟨Nat.lt_of_lt_of_le h.pen.lt hg.size, cell_kept h.pen.cell hg hr2, (frozen_kept h.pen.cell hg hr2).trans h.pen.free, hrow h.pen.own⟩, ?_, cell_kept h.box hg hr2, hrow h.row, h.far⟩;exact ⟨hg.os.trans h.to.os, hg.tape.trans h.to.tape, hg.output.trans h.to.output, Nat.le_trans h.to.size hg.size, fun k hk hq hv => (hg.block k (Nat.lt_of_lt_of_le hk h.to.size) (fun e => by have := (hr k e.symm).1; omega)).trans (h.to.block k hk hq hv), h.to.row⟩
theorem MidNum.append {U8 : TypeId} {q : Nat} {v : Value} {w wr : World} {u : Value} {xs l : List UInt8} {v1 : Value} (h : MidNum U8 q v w wr u xs l v1) (hq : q < w.heap.size) (hs : w.heap.size < wr.heap.size) (hul : ∀ g, u.ownBlock = some g → g < wr.heap.size)
  {A w1 : World} (hA : Below wr.heap.size wr A) (hAs : A.heap.size = wr.heap.size + 1) {c : UInt8} {g cap : Nat}
  (hown : w1.ownsRow (q + 1) U8 1 (.slice (some ⟨g, 0, none⟩) (l.length + 1) cap) (l.length + 1) (l.map bv ++ [bv c])) (hgrow : A.grownBy w1 v1.ownBlock) (hat : v1.ownBlock = some g ∨ g = wr.heap.size + 1) :
  MidNum U8 q v w (w1.setCell ⟨q, 0, none⟩ (.slice (some ⟨g, 0, none⟩) (l.length + 1) cap)) u xs (l ++ [c]) (.slice (some ⟨g, 0, none⟩) (l.length + 1) cap) := by
 have hpA := h.pen.below hA;have hvq : v1.ownBlock ≠ some q := fun e => by have := (own_lt h.pen.own e).1; omega
 have hqA : q < A.heap.size := hpA.lt;have hsz := hgrow.size;have hgq : q + 1 ≤ g := (own_lt hown rfl).1;have hgf : g ≠ w.heap.size ∧ u.ownBlock ≠ some g := by
  rcases hat with e | e
  ·exact h.far g e
  ·refine ⟨by omega, fun e2 => ?_⟩;have := hul g e2; omega
 have hqb : w1.heap[q]? = A.heap[q]? := hgrow.block q hqA (fun e => hvq e.symm);have hcell : w1.cell? ⟨q, 0, none⟩ = some v1 := (World.cell?_of_block (a := ⟨q, 0, none⟩) hqb).trans hpA.cell;have hother : ∀ k, k ≠ q → (w1.setCell ⟨q, 0, none⟩ (.slice (some ⟨g, 0, none⟩) (l.length + 1) cap)).heap[k]? = w1.heap[k]? := fun k hk => Below.heap_setCell _ _ _ k hk
 refine ⟨⟨by simp; omega, World.cell?_setCell_same _ _ _ hcell, ?_, ?_⟩, ?_, ?_, ?_, ?_⟩
 ·rw [World.frozen?_setCell]; exact (World.frozen?_of_block (a := ⟨q, 0, none⟩) hqb).trans hpA.free
 ·have e1 : (l ++ [c]).length = l.length + 1 := by simp
  have e2 : (l ++ [c]).map bv = l.map bv ++ [bv c] := by simp
  rw [e1, e2];refine ⟨hown.1, ?_⟩;rcases hown.2 with ⟨h0, _⟩ | ⟨g', cap', cur, h0, h1, h2, h3, h4, h5, h6⟩
  ·cases h0
  ·injection h0 with h7 h8 h9
   injection h7 with h7
   injection h7 with h7 _ _
   subst h7;exact .inr ⟨g, cap', cur, by rw [h9], h1, (hother g (by omega)).trans h2, h3, h4, h5, h6⟩
 ·refine h.to.trans ⟨?_, ?_, ?_, ?_, ?_, ?_⟩
  ·show w1.os = _; rw [hgrow.os, hA.os]
  ·show w1.tape = _; rw [hgrow.tape, hA.tape]
  ·show w1.output = _; rw [hgrow.output, hA.output]
  ·simp; omega
  ·intro k hk hkq hkv;exact (hother k hkq).trans ((hgrow.block k (by omega) (fun e => hkv e.symm)).trans (hA.block k hk))
  ·rcases hat with e | e
   ·exact .inl (by rw [e]; rfl)
   ·exact .inr ⟨g, rfl, by omega⟩
 ·rw [World.cell?_of_block (a := ⟨w.heap.size, 0, none⟩) (hother w.heap.size (by omega))];rw [World.cell?_of_block (a := ⟨w.heap.size, 0, none⟩) (hgrow.block w.heap.size (by omega) (fun e => (h.far _ e.symm).1 rfl))];rw [World.cell?_of_block (a := ⟨w.heap.size, 0, none⟩) (hA.block w.heap.size hs)];exact h.box
 ·have hrA : A.ownsRow (w.heap.size + 1) U8 1 u xs.length (xs.map bv) := by
   refine ⟨h.row.1, ?_⟩;rcases h.row.2 with ⟨e, hn⟩ | ⟨g', cap', cur, e, h1, h2, h3, h4, h5, h6⟩
   ·exact .inl ⟨e, hn⟩
   ·exact .inr ⟨g', cap', cur, e, h1, (hA.block g' (Array.getElem?_eq_some_iff.1 h2).1).trans h2, h3, h4, h5, h6⟩
  have hr1 := row_grown hrA hgrow (fun g' hg' e => (h.far g' e).2 hg');refine ⟨hr1.1, ?_⟩;rcases hr1.2 with ⟨e, hn⟩ | ⟨g', cap', cur, e, h1, h2, h3, h4, h5, h6⟩
  ·exact .inl ⟨e, hn⟩
  ·exact .inr ⟨g', cap', cur, e, h1, (hother g' (by omega)).trans h2, h3, h4, h5, h6⟩
 ·intro g' hg';simp [Value.ownBlock] at hg';subst hg';exact hgf
end Go.Proofs.YtogcnfhmcpkdcaaGreat
