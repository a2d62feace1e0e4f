/-
  The cells of what the reference's Take hands back.
-/
import Derived.Test.YtogcnfhmcpkdcaaRefTake2
namespace Go.Proofs.Ytogcnfhmcpkdcaa
open Go.RowKit
set_option linter.unusedVariables false

theorem takeP_d (kk : Int) (N : Nat) (l : List UInt8) : (takeP kk N l).d.length = 32 := by
  unfold takeP
  by_cases h2 : kk = 2
  · rw [if_pos h2]
    cases h : getTake 32 l with
    | err x => simp [PGot.bad, zeros32]
    | ok d r =>
      simp only [getTake] at h
      split at h
      · cases h
      · injection h with h1 _
        rw [← h1]; simp; omega
  · rw [if_neg h2]
    by_cases h0 : kk = 0
    · rw [if_pos h0]
      cases getNum N l <;> simp [PGot.bad, zeros32]
    · rw [if_neg h0]
      cases getText N l <;> simp [PGot.bad, zeros32]

theorem takeP_num_err {N : Nat} {l : List UInt8} {x : Int} (h : getNum N l = .err x) : takeP 0 N l = .bad x := by simp [takeP, h]
theorem takeP_num_ok {N v : Nat} {l r : List UInt8} (h : getNum N l = .ok v r) : takeP 0 N l = ⟨0, v, [], zeros32, 0, r⟩ := by simp [takeP, h]
theorem takeP_text_err {N : Nat} {l : List UInt8} {x : Int} (h : getText N l = .err x) : takeP 1 N l = .bad x := by simp [takeP, h]
theorem takeP_text_ok {N : Nat} {l t r : List UInt8} (h : getText N l = .ok t r) : takeP 1 N l = ⟨1, 0, t, zeros32, 0, r⟩ := by simp [takeP, h]
theorem takeP_id_err {N : Nat} {l : List UInt8} {x : Int} (h : getTake 32 l = .err x) : takeP 2 N l = .bad x := by simp [takeP, h]
theorem takeP_id_ok {N : Nat} {l d r : List UInt8} (h : getTake 32 l = .ok d r) : takeP 2 N l = ⟨2, 0, [], d, 0, r⟩ := by simp [takeP, h]

theorem gotCells_len (k : Int) (n : Nat) (sv : Value) (d : List UInt8) (e : Int) (lv : Value) (hd : d.length = 32) : (gotCells k n sv d e lv).length = 37 := by simp [gotCells, hd]
theorem gotCells_k (k : Int) (n : Nat) (sv : Value) (d : List UInt8) (e : Int) (lv : Value) : (gotCells k n sv d e lv)[0]? = some (.int .i64 k) := rfl
theorem gotCells_n (k : Int) (n : Nat) (sv : Value) (d : List UInt8) (e : Int) (lv : Value) : (gotCells k n sv d e lv)[1]? = some (.int .u64 n) := rfl
theorem gotCells_s (k : Int) (n : Nat) (sv : Value) (d : List UInt8) (e : Int) (lv : Value) : (gotCells k n sv d e lv)[2]? = some sv := rfl
theorem gotCells_e (k : Int) (n : Nat) (sv : Value) (d : List UInt8) (e : Int) (lv : Value) (hd : d.length = 32) : (gotCells k n sv d e lv)[35]? = some (.int .i64 e) := by
  simp only [gotCells, List.getElem?_cons_succ]
  rw [List.getElem?_append_right (by simp [hd])]
  simp [hd]
theorem gotCells_l (k : Int) (n : Nat) (sv : Value) (d : List UInt8) (e : Int) (lv : Value) (hd : d.length = 32) : (gotCells k n sv d e lv)[36]? = some lv := by
  simp only [gotCells, List.getElem?_cons_succ]
  rw [List.getElem?_append_right (by simp [hd])]
  simp [hd]
theorem gotCells_one (k : Int) (n : Nat) (a : Option Addr) (m c : Nat) (d : List UInt8) (e : Int) (a' : Option Addr) (m' c' : Nat) : (gotCells k n (.slice a m c) d e (.slice a' m' c')).toArray.all (·.oneCell') = true := by
  refine all_oneCell_toArray (fun v hv => ?_)
  simp only [gotCells, List.mem_cons, List.mem_append, List.mem_map] at hv
  rcases hv with rfl | rfl | rfl | ⟨x, _, rfl⟩ | rfl | rfl | h
  · rfl
  · rfl
  · rfl
  · rfl
  · rfl
  · rfl
  · cases h

theorem GotIs.parts {w : World} {B : Nat} {gs : Array Value} {g : PGot} (h : GotIs w B gs g) (hd : g.d.length = 32) : gs.size = 37 ∧ gs.all (·.oneCell') = true := by
  obtain ⟨a, c, a', c', rfl, _, _⟩ := h
  exact ⟨by rw [List.size_toArray, gotCells_len _ _ _ _ _ _ hd], gotCells_one _ _ _ _ _ _ _ _ _ _⟩

/-- a Got that lies in block g -/
structure GotAt (T : TypeId) (w : World) (B g : Nat) (k : Int) (n : Nat) (t d : List UInt8) (e : Int) (left : List UInt8) (a : Option Addr) (c : Nat) (a' : Option Addr) (c' : Nat) : Prop where
  row : w.heap[g]? = some (.cells (gotCells k n (.slice a t.length c) d e (.slice a' left.length c')).toArray T (0, 0))
  dl : d.length = 32
  tx : BsAt w B a t.length c t
  lf : BsAt w B a' left.length c' left

theorem GotAt.ck {T : TypeId} {w : World} {B g : Nat} {k : Int} {n : Nat} {t d : List UInt8} {e : Int} {left : List UInt8} {a : Option Addr} {c : Nat} {a' : Option Addr} {c' : Nat} (h : GotAt T w B g k n t d e left a c a' c') :
    w.cell? ⟨g, 0, none⟩ = some (.int .i64 k) ∧ w.cell? ⟨g, 1, none⟩ = some (.int .u64 n) ∧ w.cell? ⟨g, 2, none⟩ = some (.slice a t.length c) ∧ w.cell? ⟨g, 35, none⟩ = some (.int .i64 e) ∧ w.cell? ⟨g, 36, none⟩ = some (.slice a' left.length c') := by
  refine ⟨?_, ?_, ?_, ?_, ?_⟩ <;> rw [cell_of_row _ _ _ _ _ _ h.row, List.getElem?_toArray]
  · rfl
  · rfl
  · rfl
  · exact gotCells_e _ _ _ _ _ _ h.dl
  · exact gotCells_l _ _ _ _ _ _ h.dl

theorem GotIs.at_ {T : TypeId} {w : World} {B g : Nat} {gs : Array Value} {G : PGot} (h : GotIs w B gs G) (hd : G.d.length = 32) (hg : w.heap[g]? = some (.cells gs T (0, 0))) : ∃ a c a' c', GotAt T w B g G.k G.n G.t G.d G.e G.left a c a' c' := by
  obtain ⟨a, c, a', c', rfl, h1, h2⟩ := h
  exact ⟨a, c, a', c', hg, hd, h1, h2⟩

/-- what Take hands back is laid into a new block -/
theorem GotIs.lay {T : TypeId} {w1 W2 : World} {B : Nat} {gs : Array Value} {k : Int} {n : Nat} {t d : List UInt8} {e : Int} {left : List UInt8} (h : GotIs w1 B gs ⟨k, n, t, d, e, left⟩) (hd : d.length = 32) (hB : B ≤ w1.heap.size)
    (hrow : W2.heap[w1.heap.size]? = some (.cells gs T (0, 0))) (hb : Below w1.heap.size w1 W2) : ∃ a c a' c', GotAt T W2 B w1.heap.size k n t d e left a c a' c' ∧
      W2.cell? ⟨w1.heap.size, 0, none⟩ = some (.int .i64 k) ∧ W2.cell? ⟨w1.heap.size, 1, none⟩ = some (.int .u64 n) ∧ W2.cell? ⟨w1.heap.size, 2, none⟩ = some (.slice a t.length c) ∧ W2.cell? ⟨w1.heap.size, 35, none⟩ = some (.int .i64 e) ∧ W2.cell? ⟨w1.heap.size, 36, none⟩ = some (.slice a' left.length c') := by
  obtain ⟨a, c, a', c', rfl, h1, h2⟩ := h
  have hg : GotAt T W2 B w1.heap.size k n t d e left a c a' c' := ⟨hrow, hd, h1.below hb hB, h2.below hb hB⟩
  exact ⟨a, c, a', c', hg, hg.ck⟩

theorem GotAt.below {T : TypeId} {w w' : World} {B B' g : Nat} {k : Int} {n : Nat} {t d : List UInt8} {e : Int} {left : List UInt8} {a : Option Addr} {c : Nat} {a' : Option Addr} {c' : Nat} (h : GotAt T w B g k n t d e left a c a' c') (hb : Below B' w w') (hB : B ≤ B') (hg : g < B') : GotAt T w' B g k n t d e left a c a' c' :=
  ⟨(hb.block g hg).trans h.row, h.dl, h.tx.below hb hB, h.lf.below hb hB⟩
end Go.Proofs.Ytogcnfhmcpkdcaa
