/-
  One round of Pen.Num's second loop, as the law of a range over a function asks it. No program in sight.
-/
import Derived.Test.YtogcnfhmcpkdcaaPen1
import Derived.Test.YtogcnfhmcpkdcaaPenLaw
namespace Go.Proofs.Ytogcnfhmcpkdcaa
open Go.RowKit
set_option linter.unusedVariables false

theorem MidNum.round {U8 T : TypeId} {q : Nat} {v : Value} {w W : World} {u : Value} {xs L : List UInt8} {v3 : Value} (h : MidNum U8 q v w W u xs L v3) (hq : q < w.heap.size) (hs : w.heap.size < W.heap.size) (b2 B : Nat) (hb2 : b2 < W.heap.size) (hb3 : w.heap.size ≤ b2) (hv : v3.ownBlock ≠ some b2)
    (c : UInt8) {g cap : Nat} {w1 : World} (hown : w1.ownsRow (q + 1) U8 1 (.slice (some ⟨g, 0, none⟩) (L.length + 1) cap) (L.length + 1) (L.map bv ++ [bv c])) (hgrow : (W.alloc (.cells #[bv c] T)).drew.grownBy w1 v3.ownBlock) (hat : v3.ownBlock = some g ∨ g = W.heap.size + 1) :
    KeepsFrom B W (w1.setCell ⟨q, 0, none⟩ (.slice (some ⟨g, 0, none⟩) (L.length + 1) cap)) ∧
    KeepAt (fun k => k = b2 ∨ u.ownBlock = some k) W (w1.setCell ⟨q, 0, none⟩ (.slice (some ⟨g, 0, none⟩) (L.length + 1) cap)) ∧
    W.heap.size ≤ (w1.setCell ⟨q, 0, none⟩ (.slice (some ⟨g, 0, none⟩) (L.length + 1) cap)).heap.size ∧
    ∃ v', MidNum U8 q v w (w1.setCell ⟨q, 0, none⟩ (.slice (some ⟨g, 0, none⟩) (L.length + 1) cap)) u xs (L ++ [c]) v' ∧ v'.ownBlock ≠ some b2 := by
  have hul : ∀ g, u.ownBlock = some g → g < W.heap.size := fun g hg => (own_lt h.row hg).2
  have hA : Below W.heap.size W (W.alloc (.cells #[bv c] T)).drew := ((Below.refl _ W).alloc (Nat.le_refl _) _).drew
  have hsz := hgrow.size
  simp at hsz
  have hpA := h.pen.below hA
  have hother : ∀ k, k ≠ q → (w1.setCell ⟨q, 0, none⟩ (.slice (some ⟨g, 0, none⟩) (L.length + 1) cap)).heap[k]? = w1.heap[k]? := fun k hk => Below.heap_setCell _ _ _ k hk
  have hsame : ∀ k, k < W.heap.size → k ≠ q → v3.ownBlock ≠ some k → (w1.setCell ⟨q, 0, none⟩ (.slice (some ⟨g, 0, none⟩) (L.length + 1) cap)).heap[k]? = W.heap[k]? := fun k hk hkq hkv =>
    (hother k hkq).trans ((hgrow.block k (by simp; omega) (fun e => hkv e.symm)).trans (hA.block k hk))
  refine ⟨⟨by simp; omega, fun k o hB hk ho => ?_⟩, fun k hk => ?_, by simp; omega, _, h.append hq hs hul hA (by simp) hown hgrow hat, ?_⟩
  · have hkl := (Array.getElem?_eq_some_iff.1 hk).1
    refine (hsame k hkl ?_ ?_).trans hk
    · rintro rfl
      obtain ⟨o', ho', hc'⟩ := cells_of_cell h.pen.cell
      rw [hk] at ho'; cases ho'; rw [ho] at hc'; cases hc'
    · intro e
      rcases h.pen.own.2 with ⟨e2, _⟩ | ⟨g', cap', cur, e2, _, h2, _⟩
      · rw [e2] at e; simp [Value.ownBlock] at e
      · rw [e2] at e; simp [Value.ownBlock] at e; subst e
        rw [hk] at h2; cases h2; cases ho
  · rcases hk with rfl | hk
    · exact hsame _ hb2 (by omega) hv
    · have := own_lt h.row hk
      exact hsame k this.2 (by omega) (fun e => (h.far k e).2 hk)
  · intro e
    simp [Value.ownBlock] at e
    subst e
    rcases hat with e | e
    · exact hv e
    · omega
end Go.Proofs.Ytogcnfhmcpkdcaa
