/-
  A run of cells in a block, and what stores do to it. No program in sight.
-/
import Derived.Test.YtogcnfhmcpkdcaaWideOps2
namespace Go.Proofs.Ytogcnfhmcpkdcaa
open Go.RowKit
set_option linter.unusedVariables false

/-- the cells cs lie in block g from its head on, and may be written -/
structure Lies (w : World) (g : Nat) (cs : List Value) : Prop where
  at_ : w.rangeAt g 0 cs
  free : w.there g 0 cs.length
  lt : g < w.heap.size

theorem Lies.of_row {w : World} {g : Nat} {cs : Array Value} {T : TypeId} (h : w.heap[g]? = some (.cells cs T (0, 0))) : Lies w g cs.toList := by
  have hl : g < w.heap.size := (Array.getElem?_eq_some_iff.1 h).1
  refine ⟨fun j v hj => ?_, fun j hj => ⟨?_, frozen_of_row _ _ _ _ _ h⟩, hl⟩
  · rw [cell_of_row _ _ _ _ _ _ h, Nat.zero_add]; simpa using hj
  · rw [cell_of_row _ _ _ _ _ _ h, Nat.zero_add]; simp at hj; simp [hj]

theorem Lies.cell {w : World} {g : Nat} {cs : List Value} (h : Lies w g cs) {i : Nat} {v : Value} (hv : cs[i]? = some v) : w.cell? ⟨g, i, none⟩ = some v := by
  have := h.at_ i v hv
  rwa [Nat.zero_add] at this
theorem Lies.frozen {w : World} {g : Nat} {cs : List Value} (h : Lies w g cs) {i : Nat} (hi : i < cs.length) : w.frozen? ⟨g, i, none⟩ = false := by
  have := (h.free i hi).2
  rwa [Nat.zero_add] at this

theorem Lies.block {w w' : World} {g : Nat} {cs : List Value} (h : Lies w g cs) (hb : w'.heap[g]? = w.heap[g]?) (hs : w.heap.size ≤ w'.heap.size) : Lies w' g cs :=
  ⟨fun j v hj => (World.cell?_of_block (a := ⟨g, 0 + j, none⟩) hb).trans (h.at_ j v hj), fun j hj => ⟨by rw [World.cell?_of_block (a := ⟨g, 0 + j, none⟩) hb]; exact (h.free j hj).1, by rw [World.frozen?_of_block (a := ⟨g, 0 + j, none⟩) hb]; exact (h.free j hj).2⟩, Nat.lt_of_lt_of_le h.lt hs⟩

theorem Lies.setCell {w : World} {g i : Nat} {cs : List Value} (h : Lies w g cs) (hi : i < cs.length) (v : Value) : Lies (w.setCell ⟨g, i, none⟩ v) g (cs.set i v) := by
  refine ⟨fun j u hj => ?_, fun j hj => ⟨?_, ?_⟩, by simpa using h.lt⟩
  · rw [Nat.zero_add]
    by_cases hji : i = j
    · subst hji
      rw [List.getElem?_set_self hi] at hj
      injection hj with hj
      subst hj
      exact World.cell?_setCell_same _ _ _ (h.cell (List.getElem?_eq_getElem hi))
    · rw [List.getElem?_set_ne hji] at hj
      rw [World.cell?_setCell_other _ _ _ _ (fun e => by injection e with _ e1; exact hji e1)]
      exact h.cell hj
  · refine World.isSome_setCells g [v] i w _ ?_
    exact (h.free j (by simpa using hj)).1
  · rw [World.frozen?_setCell]; exact (h.free j (by simpa using hj)).2

theorem setCells_below {B g : Nat} (w : World) (i : Nat) (vs : List Value) (hg : B ≤ g) : Below B w (w.setCells g i vs) := by
  induction vs generalizing w i with
  | nil => exact Below.refl _ _
  | cons v vs ih => rw [World.setCells]; exact ((Below.refl B w).setCell (p := ⟨g, i, none⟩) hg v).trans (ih _ _)

theorem Lies.setCells {w : World} {g i : Nat} {cs vs : List Value} (h : Lies w g cs) (hi : i + vs.length ≤ cs.length) : Lies (w.setCells g i vs) g (cs.take i ++ vs ++ cs.drop (i + vs.length)) := by
  have hlen : (cs.take i ++ vs ++ cs.drop (i + vs.length)).length = cs.length := by simp; omega
  refine ⟨fun j u hj => ?_, fun j hj => ⟨?_, ?_⟩, Nat.lt_of_lt_of_le h.lt (setCells_below (B := 0) w i vs (Nat.zero_le _)).size⟩
  · rw [Nat.zero_add]
    by_cases h1 : j < i
    · rw [World.cell?_setCells_out g vs i w ⟨g, j, none⟩ (fun _ _ => .inl h1)]
      rw [List.append_assoc, List.getElem?_append_left (by simp; omega), List.getElem?_take_of_lt h1] at hj
      exact h.cell hj
    · by_cases h2 : j < i + vs.length
      · obtain ⟨k, rfl⟩ : ∃ k, j = i + k := ⟨j - i, by omega⟩
        have hk : k < vs.length := by omega
        rw [World.cell?_setCells_in g vs i w (fun m hm => by have := (h.free (i + m) (by omega)).1; rwa [Nat.zero_add] at this) k hk]
        rw [List.append_assoc, List.getElem?_append_right (by simp; omega), List.getElem?_append_left (by simp; omega)] at hj
        rw [← hj, List.length_take, Nat.min_eq_left (by omega), Nat.add_sub_cancel_left, List.getElem?_eq_getElem hk]
      · rw [World.cell?_setCells_out g vs i w ⟨g, j, none⟩ (fun _ _ => .inr (by show i + vs.length ≤ j; omega))]
        rw [List.getElem?_append_right (by simp; omega)] at hj
        simp only [List.length_append, List.length_take, List.getElem?_drop] at hj
        rw [show i + vs.length + (j - (min i cs.length + vs.length)) = j by omega] at hj
        exact h.cell hj
  · exact World.isSome_setCells g vs i w _ (h.free j (by rw [hlen] at hj; exact hj)).1
  · rw [World.frozen?_setCells]; exact (h.free j (by rw [hlen] at hj; exact hj)).2

theorem setCells_block {g k : Nat} (w : World) (i : Nat) (vs : List Value) (hk : k ≠ g) : (w.setCells g i vs).heap[k]? = w.heap[k]? := by
  induction vs generalizing w i with
  | nil => rfl
  | cons v vs ih => rw [World.setCells, ih]; exact heap_setCell_other _ _ _ _ hk

section
variable {P : Program}
/-- a struct that lies in a block is handed back -/
theorem results_lies {fn : Func} {p : Tmp} {ty : TypeId} (h : fn.results = #[.cell p ty]) (tmps : Array Value) (w : World) (g : Nat) (cs : List Value) (d : TypeDesc)
    (hp : tmps.getD p undef = .pointer (some ⟨g, 0, none⟩)) (hg : Lies w g cs) (hu : P.underlying ty = some d) (hd : d.isRow = true) (hi : (P.info? ty).map (·.size) = some cs.length) :
    (results fn tmps).run P w = .ok (.agg cs.toArray) w := by
  have hp' : tmps[p]?.getD undef = .pointer (some ⟨g, 0, none⟩) := by simpa using hp
  simp [results, h, hp', asAddr, run_loadVar_mid w g 0 ty cs d hg.at_ hu hd hi]
end
end Go.Proofs.Ytogcnfhmcpkdcaa
