/-
  The seat's own types, read by their parts.
-/
import Derived.Test.YtogcnfhmcpkdcaaGreatOpen
import Derived.Test.YtogcnfhmcpkdcaaGreatRows
namespace Go.Proofs.YtogcnfhmcpkdcaaGreat
open Go.ChangeShapes Go.WideShapes Go.ChangeAt Go.RowKit
set_option maxRecDepth 100000

theorem open_agg {P : Program} {w : World} {t : TypeId} {v : Value} {r : Reach} {base : Nat} {fs : Array Field}
    (hok : Value.okWide P w r base t v) (ht : P.underlying t = some (.struct fs)) : ∃ cs, v = .agg cs := by
  simp only [Value.okWide, ht] at hok
  obtain ⟨cs, h, _⟩ := hok
  exact ⟨cs, h⟩
theorem open_agga {P : Program} {w : World} {t : TypeId} {v : Value} {r : Reach} {base n : Nat} {e : TypeId}
    (hok : Value.okWide P w r base t v) (ht : P.underlying t = some (.array n e)) : ∃ cs, v = .agg cs := by
  simp only [Value.okWide, ht] at hok
  obtain ⟨cs, h, _⟩ := hok
  exact ⟨cs, h⟩

section
variable {H : Type} {enc : TypeId × Value → H} {w : World} {cs : List Value}

theorem cells3 : Tryz.prog.cellsOf 3 = 1 := by kernel_rfl
theorem cells4 : Tryz.prog.cellsOf 4 = 1 := by kernel_rfl
theorem cells80 : Tryz.prog.cellsOf 80 = 2 := by kernel_rfl
theorem cells82 : Tryz.prog.cellsOf 82 = 7 := by kernel_rfl

theorem list2 {α : Type} {l : List α} (h : l.length = 2) : ∃ a b, l = [a, b] := by
  match l, h with
  | [a, b], _ => exact ⟨a, b, rfl⟩
theorem list3 {α : Type} {l : List α} (h : l.length = 3) : ∃ a b c, l = [a, b, c] := by
  match l, h with
  | [a, b, c], _ => exact ⟨a, b, c, rfl⟩
theorem list7 {α : Type} {l : List α} (h : l.length = 7) : ∃ a b c d e f g, l = [a, b, c, d, e, f, g] := by
  match l, h with
  | [a, b, c, d, e, f, g], _ => exact ⟨a, b, c, d, e, f, g, rfl⟩

theorem Rd.ballot (h : Rd enc Tryz.prog w 80 cs) : ∃ t f, cs = [.int .i64 t, .int .i64 f] ∧ (Lit.int .i64 t).wf = true ∧ (Lit.int .i64 f).wf = true := by
  obtain ⟨h1, h2⟩ := h.struct Tryz.underlying80
  rw [cells80] at h1
  obtain ⟨x, y, rfl⟩ := list2 h1
  have f0 : Rd enc Tryz.prog w 3 (([x, y].drop 0).take (Tryz.prog.cellsOf 3)) := h2 0 _ rfl
  have f1 : Rd enc Tryz.prog w 3 (([x, y].drop 1).take (Tryz.prog.cellsOf 3)) := h2 1 _ rfl
  rw [cells3] at f0 f1
  obtain ⟨t, ht, wt⟩ := f0.int Tryz.underlying3
  obtain ⟨f, hf, wf⟩ := f1.int Tryz.underlying3
  simp at ht hf
  exact ⟨t, f, by rw [ht, hf], wt, wf⟩

theorem open_ballot {v : Value} {d : DataW H} {ps : List MemPlace} {r : Reach} {base : Nat} (hok : Value.okWide Tryz.prog w r base 80 v) (h : DataW.Trod enc Tryz.prog w 0 (fun _ => true) true 80 v d ps) :
    ∃ t f, v = .agg #[.int .i64 t, .int .i64 f] ∧ (Lit.int .i64 t).wf = true ∧ (Lit.int .i64 f).wf = true := by
  obtain ⟨cs, rfl⟩ := open_agg hok Tryz.underlying80
  obtain ⟨t, f, h1, h2, h3⟩ := (Rd.of h).ballot
  simp only [Value.cells] at h1
  exact ⟨t, f, by rw [← Array.toArray_toList (xs := cs), h1], h2, h3⟩

theorem open_arr7 {v : Value} {d : DataW H} {ps : List MemPlace} {r : Reach} {base : Nat} (hok : Value.okWide Tryz.prog w r base 82 v) (h : DataW.Trod enc Tryz.prog w 0 (fun _ => true) true 82 v d ps) :
    ∃ x0 x1 x2 x3 x4 x5 x6, v = .agg #[.int .i64 x0, .int .i64 x1, .int .i64 x2, .int .i64 x3, .int .i64 x4, .int .i64 x5, .int .i64 x6] := by
  obtain ⟨cs, rfl⟩ := open_agga hok Tryz.underlying82
  obtain ⟨h1, h2⟩ := (Rd.of h).array Tryz.underlying82
  rw [cells82] at h1
  simp only [Value.cells] at h1 h2
  obtain ⟨a, b, c, d, e, f, g, hl⟩ := list7 h1
  rw [hl] at h2
  simp only [cells3] at h2
  have hi : ∀ i, i < 7 → ∀ x, ([a, b, c, d, e, f, g].drop (i * 1)).take 1 = [x] → ∃ n, x = .int .i64 n := by
    intro i hi x hx
    have := h2 i hi
    rw [hx] at this
    obtain ⟨n, hn, _⟩ := this.int Tryz.underlying3
    simp at hn
    exact ⟨n, hn⟩
  obtain ⟨x0, rfl⟩ := hi 0 (by omega) a rfl
  obtain ⟨x1, rfl⟩ := hi 1 (by omega) b rfl
  obtain ⟨x2, rfl⟩ := hi 2 (by omega) c rfl
  obtain ⟨x3, rfl⟩ := hi 3 (by omega) d rfl
  obtain ⟨x4, rfl⟩ := hi 4 (by omega) e rfl
  obtain ⟨x5, rfl⟩ := hi 5 (by omega) f rfl
  obtain ⟨x6, rfl⟩ := hi 6 (by omega) g rfl
  exact ⟨x0, x1, x2, x3, x4, x5, x6, by rw [← Array.toArray_toList (xs := cs), hl]⟩
end
end Go.Proofs.YtogcnfhmcpkdcaaGreat
