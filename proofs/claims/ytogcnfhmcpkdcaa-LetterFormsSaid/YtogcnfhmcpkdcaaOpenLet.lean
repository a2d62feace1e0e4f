/-
  A letter that came in, opened.
-/
import Derived.Test.YtogcnfhmcpkdcaaLetLaw
import Derived.Test.YtogcnfhmcpkdcaaOpenActs
namespace Go.Proofs.Ytogcnfhmcpkdcaa
open Go.ChangeShapes Go.WideShapes Go.ChangeAt Go.RowKit
set_option maxRecDepth 100000
set_option linter.unusedVariables false
set_option linter.unusedSimpArgs false

theorem cells111 : Try.prog.cellsOf 111 = 8 := by kernel_rfl

/-- a letter that was read: its parts, as far as they are not too great -/
structure LetRdAt (w : World) (B : Nat) (x : PLet) (ia : Option Addr) (ic : Nat) (ms : List MItem) (ba : Option Addr) (bc : Nat) : Prop where
  sl : SlAt w B 2 ia ms.length ic (cellsM ms)
  its : ∀ m ∈ ms, ItRd w B m
  eq : ms.map MItem.it = x.its
  b : x.b.length ≤ 140737488355328 → BsAt w B ba x.b.length bc x.b
theorem LetRdAt.below {w w' : World} {B B' : Nat} {x : PLet} {ia : Option Addr} {ic : Nat} {ms : List MItem} {ba : Option Addr} {bc : Nat} (h : LetRdAt w B x ia ic ms ba bc) (hb : Below B' w w') (hB : B ≤ B') : LetRdAt w' B x ia ic ms ba bc :=
  ⟨h.sl.below hb hB, fun m hm => (h.its m hm).below hb hB, h.eq, fun hn => (h.b hn).below hb hB⟩
/-- one that is not great is in memory -/
theorem LetRdAt.at {w : World} {B : Nat} {x : PLet} {ia : Option Addr} {ic : Nat} {ms : List MItem} {ba : Option Addr} {bc : Nat} (h : LetRdAt w B x ia ic ms ba bc) (hm : ∀ m ∈ ms, m.b.length ≤ 200) (hb : x.b.length ≤ 300) : LetAt w B x ia ic ms ba bc :=
  ⟨⟨h.sl, fun m h9 => (h.its m h9).bs (by rw [(h.its m h9).ln]; have := hm m h9; omega)⟩, h.eq, h.b (by omega)⟩

theorem list8 {α : Type} {l : List α} (h : l.length = 8) : ∃ a b c d e f g i, l = [a, b, c, d, e, f, g, i] := by
  match l, h with
  | [a, b, c, d, e, f, g, i], _ => exact ⟨a, b, c, d, e, f, g, i, rfl⟩

section
variable {H : Type} {enc : TypeId × Value → H} {w : World} {cs : List Value}

theorem Rd.letter (h : Rd enc Try.prog w 111 cs) : ∃ (x : PLet) (ia : Option Addr) (ic : Nat) (ms : List MItem) (ba : Option Addr) (bc : Nat), cs = (lcell x ia ms.length ic ba bc).toList ∧ LetRdAt w w.heap.size x ia ic ms ba bc := by
  obtain ⟨h1, h2⟩ := h.struct Try.underlying111
  rw [cells111] at h1
  have f0 : Rd enc Try.prog w 3 ((cs.drop 0).take (Try.prog.cellsOf 3)) := h2 0 _ rfl
  have f1 : Rd enc Try.prog w 3 ((cs.drop 1).take (Try.prog.cellsOf 3)) := h2 1 _ rfl
  have f2 : Rd enc Try.prog w 3 ((cs.drop 2).take (Try.prog.cellsOf 3)) := h2 2 _ rfl
  have f3 : Rd enc Try.prog w 3 ((cs.drop 3).take (Try.prog.cellsOf 3)) := h2 3 _ rfl
  have f4 : Rd enc Try.prog w 3 ((cs.drop 4).take (Try.prog.cellsOf 3)) := h2 4 _ rfl
  have f5 : Rd enc Try.prog w 4 ((cs.drop 5).take (Try.prog.cellsOf 4)) := h2 5 _ rfl
  have f6 : Rd enc Try.prog w 49 ((cs.drop 6).take (Try.prog.cellsOf 49)) := h2 6 _ rfl
  have f7 : Rd enc Try.prog w 22 ((cs.drop 7).take (Try.prog.cellsOf 22)) := h2 7 _ rfl
  rw [cells3] at f0 f1 f2 f3 f4
  rw [cells4] at f5
  rw [cells49] at f6
  rw [cells22] at f7
  obtain ⟨k, hk, _⟩ := f0.int Try.underlying3
  obtain ⟨t, ht, _⟩ := f1.int Try.underlying3
  obtain ⟨a, ha, _⟩ := f2.int Try.underlying3
  obtain ⟨u, hu, _⟩ := f3.int Try.underlying3
  obtain ⟨o, ho, _⟩ := f4.int Try.underlying3
  obtain ⟨y, hy⟩ := f5.bool Try.underlying4
  obtain ⟨ia, ic, ms, hs, hsl, hel⟩ := f6.items
  obtain ⟨ba, n, bc, b, hb, rfl, hbs⟩ := f7.bytes
  obtain ⟨c0, c1, c2, c3, c4, c5, c6, c7, rfl⟩ := list8 h1
  simp at hk ht ha hu ho hy hs hb
  subst hk ht ha hu ho hy hs hb
  exact ⟨⟨k, t, a, u, o, y, ms.map MItem.it, b⟩, ia, ic, ms, ba, bc, rfl, ⟨hsl, hel, rfl, hbs⟩⟩

theorem open_letter {v : Value} {d : DataW H} {ps : List MemPlace} {r : Reach} {base : Nat} (hok : Value.okWide Try.prog w r base 111 v)
    (h : DataW.Trod enc Try.prog w 0 (fun _ => true) true 111 v d ps) : ∃ (x : PLet) (ia : Option Addr) (ic : Nat) (ms : List MItem) (ba : Option Addr) (bc : Nat), v = .agg (lcell x ia ms.length ic ba bc) ∧ LetRdAt w w.heap.size x ia ic ms ba bc := by
  obtain ⟨cs, rfl⟩ := open_agg hok Try.underlying111
  obtain ⟨x, ia, ic, ms, ba, bc, h1, h2⟩ := (Rd.of h).letter
  simp only [Value.cells] at h1
  refine ⟨x, ia, ic, ms, ba, bc, ?_, h2⟩
  cases cs
  simp only at h1
  rw [h1]
end
end Go.Proofs.Ytogcnfhmcpkdcaa
