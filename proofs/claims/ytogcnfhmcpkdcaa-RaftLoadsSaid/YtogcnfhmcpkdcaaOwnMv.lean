/-
  Rows and lines behind a turning of other blocks.
-/
import Derived.Test.YtogcnfhmcpkdcaaLine2
namespace Go.Proofs.Ytogcnfhmcpkdcaa
open Go.RowKit
set_option linter.unusedVariables false
set_option linter.unusedSimpArgs false

theorem own_moved {w w' : World} {base e size n : Nat} {v : Value} {xs : List Value} (h : w.ownsRow base e size v n xs) (hb : ∀ g cur, v.ownBlock = some g → w.heap[g]? = some (.cells cur e (0, 0)) → w'.heap[g]? = w.heap[g]?) : w'.ownsRow base e size v n xs := by
  refine ⟨h.1, ?_⟩
  rcases h.2 with ⟨e, hn⟩ | ⟨g, cap, cur, e, h1, h2, h3, h4, h5, h6⟩
  · exact .inl ⟨e, hn⟩
  · exact .inr ⟨g, cap, cur, e, h1, (hb g cur (by rw [e]; rfl) h2).trans h2, h3, h4, h5, h6⟩

theorem LineAt.mono {w : World} {base B p : Nat} {x : PLine} {la : Option Addr} {lc : Nat} {ms : List MItem} (h : LnAt w base p x la lc ms) (hB : B ≤ base) : LnAt w B p x la lc ms :=
  ⟨h.row, World.ownsRow.mono h.own hB, h.its, h.bs, by have := h.pb; omega⟩

/-- a line behind a turning of blocks that are not its own -/
theorem LineAt.moved {w w' : World} {base p : Nat} {x : PLine} {la : Option Addr} {lc : Nat} {ms : List MItem} (h : LnAt w base p x la lc ms) (hs : w.heap.size ≤ w'.heap.size)
    (hp : ∀ cs, w.heap[p]? = some (.cells cs 167 (0, 0)) → w'.heap[p]? = w.heap[p]?) (ho : ∀ g cur, (Value.slice la ms.length lc).ownBlock = some g → w.heap[g]? = some (.cells cur 45 (0, 0)) → w'.heap[g]? = w.heap[g]?)
    (hu : ∀ k cs fr, k < w.heap.size → w.heap[k]? = some (.cells cs 5 fr) → w'.heap[k]? = w.heap[k]?) : LnAt w' base p x la lc ms :=
  ⟨(hp _ h.row).trans h.row, own_moved h.own ho, h.its, fun m hm => (h.bs m hm).grown (T := 5) hu hs, h.pb⟩

theorem ty_ne {w : World} {k : Nat} {cs cs' : Array Value} {T T' : TypeId} {fr fr' : Nat × Nat} (h : w.heap[k]? = some (.cells cs T fr)) (h' : w.heap[k]? = some (.cells cs' T' fr')) (hne : (T : Nat) ≠ T') : False := by
  rw [h] at h'
  injection h' with h'
  injection h' with _ e _
  exact hne e
end Go.Proofs.Ytogcnfhmcpkdcaa
