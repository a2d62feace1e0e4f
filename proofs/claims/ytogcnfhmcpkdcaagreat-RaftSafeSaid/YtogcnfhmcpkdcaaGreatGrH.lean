/-
  Walks of a group: what the walk of collect wants of the group's memory. No walk.
-/
import Derived.Test.YtogcnfhmcpkdcaaGreatGrC
import Derived.Test.YtogcnfhmcpkdcaaGreatLetPt
namespace Go.Proofs.YtogcnfhmcpkdcaaGreat
open Go.RowKit
set_option linter.unusedVariables false
set_option linter.unusedSimpArgs false
section
variable {w0 w w' w1 : World} {B g c : Nat} {G : PGroup} {M : GMem} {i : Nat}
theorem ByAt.store {a : Option Addr} {k : Nat} {l : List UInt8} (h : ByAt w a k l) {b j : Nat} {v : Value} {cs : Array Value} {T : TypeId} {fr : Nat × Nat} (hb : w.heap[b]? = some (.cells cs T fr)) (hT : (T : Nat) ≠ 5) : ByAt (w.setCell ⟨b, j, none⟩ v) a k l :=
 OwnBs.grown (T := 5) h (fun x cs' fr' hx hc => Below.heap_setCell _ _ _ x (fun e => by
  have e : x = b := e;rw [e] at hc;exact hT (kind_eq hb hc))) (by simp)
structure HdS (g b1 n cap : Nat) (W : World) : Prop where
 s : g < W.heap.size
 c1 : W.cell? ⟨g, 1, none⟩ = some (.slice (some ⟨b1, 0, none⟩) n cap)
theorem HdS.below {b1 n cap : Nat} (h : HdS g b1 n cap w) (hb : Below w.heap.size w w') : HdS g b1 n cap w' := ⟨Nat.lt_of_lt_of_le h.s hb.size, (hb.cell (p := ⟨g, 1, none⟩) h.s).trans h.c1⟩
structure JpS (g b3 n cap sb so x0 x1 : Nat) (W : World) : Prop where
 s : g < W.heap.size
 c3 : W.cell? ⟨g, 3, none⟩ = some (.slice (some ⟨b3, 0, none⟩) n cap)
 k0 : W.cell? ⟨sb, so, none⟩ = some (.int .u8 x0)
 k1 : W.cell? ⟨sb, so + 1, none⟩ = some (.int .u8 x1)
theorem GrAt.rowAt (h : GrAt w B g c G M) {j : Nat} (hj : j < 8) (hz : rowZ j = 1) {k : Nat} (hk : k < rowN G M j) : ∃ b, M.ra j = some ⟨b, 0, none⟩ ∧ w.cell? ⟨g, j, none⟩ = some (.slice (some ⟨b, 0, none⟩) (rowN G M j) (M.rc j)) ∧ w.cell? ⟨b, k, none⟩ = (rowX G M j)[k]? ∧ w.frozen? ⟨b, k, none⟩ = false ∧ ∃ cs, w.heap[b]? = some (.cells cs (rowT j) (0, 0)) := by
 obtain ⟨b, h1, h2, h3, h4⟩ := h.at_ hj (j := k) (by rw [hz]; omega);obtain ⟨cur, h5⟩ := own_kind (h.rows j hj) (k := b) (by rw [h1]; rfl);refine ⟨b, h1, ?_, h2, h3, cur, h5⟩;rw [h.cl hj, ← h1]; rfl
theorem infoBytes1 : (Tryz.prog.info? 27).map (·.size) = some 1 := by kernel_rfl
theorem infoInt1 : (Tryz.prog.info? 3).map (·.size) = some 1 := by kernel_rfl
structure OutAt (w : World) (oa : Option Addr) (on oc : Nat) (ps : List MPost) : Prop where
 ro : w.ownsRow 0 102 9 (.slice oa on oc) on (ps.flatMap MPost.cells)
 ms : ∀ m ∈ ps, m.At w
 ln : ps.length = on
theorem OutAt.fr {oa : Option Addr} {on oc : Nat} {ps : List MPost} (h : OutAt w oa on oc ps) (hs : w.heap.size ≤ w'.heap.size) (hk : ∀ (k : Nat) (cs : Array Value) (T : TypeId) (fr : Nat × Nat), w.heap[k]? = some (.cells cs T fr) → (T : Nat) = 102 ∨ (T : Nat) = 40 ∨ (T : Nat) = 5 → w'.heap[k]? = w.heap[k]?) : OutAt w' oa on oc ps :=
 ⟨own_mv9 h.ro fun k hk9 => (by
  rw [ownBlock_eq] at hk9;obtain ⟨cur, hc⟩ := own_kind h.ro hk9;exact hk k _ _ _ hc (.inl rfl)), fun m hm => (h.ms m hm).kept (fun k hk9 => (by
  obtain ⟨cur, hc⟩ := own_kind (h.ms m hm).own.own hk9;exact hk k _ _ _ hc (.inr (.inl rfl)))) (fun k cs fr _ hc => hk k _ _ _ hc (.inr (.inr rfl))) hs, h.ln⟩
theorem OutAt.below {oa : Option Addr} {on oc : Nat} {ps : List MPost} (h : OutAt w oa on oc ps) (hb : Below w.heap.size w w') : OutAt w' oa on oc ps :=
 h.fr hb.size fun k cs T fr hc _ => hb.block k (Array.getElem?_eq_some_iff.1 hc).1
theorem typesO : (67 : Nat) ≠ 102 ∧ (67 : Nat) ≠ 40 ∧ (67 : Nat) ≠ 5 ∧ (99 : Nat) ≠ 102 ∧ (99 : Nat) ≠ 40 ∧ (99 : Nat) ≠ 5 ∧ (84 : Nat) ≠ 102 ∧ (84 : Nat) ≠ 40 ∧ (84 : Nat) ≠ 5 := by decide
theorem OutAt.store {oa : Option Addr} {on oc : Nat} {ps : List MPost} (h : OutAt w oa on oc ps) {b j : Nat} {v : Value} {cs : Array Value} {T : TypeId} {fr : Nat × Nat} (hb : w.heap[b]? = some (.cells cs T fr)) (h1 : (T : Nat) ≠ 102) (h2 : (T : Nat) ≠ 40) (h3 : (T : Nat) ≠ 5) : OutAt (w.setCell ⟨b, j, none⟩ v) oa on oc ps :=
 h.fr (by simp) fun k cs' T' fr' hc ht => Below.heap_setCell _ _ _ k (fun e => by
  have e : k = b := e;rw [e] at hc;have h9 := kind_eq hb hc;rcases ht with ht | ht | ht
  ·exact h1 (h9.trans ht)
  ·exact h2 (h9.trans ht)
  ·exact h3 (h9.trans ht))
theorem OutAt.mail (h : GrAt w B g c G M) {oa : Option Addr} {on oc : Nat} {ps : List MPost} (ho : OutAt w oa on oc ps) (hf : GFr g M (fun x => x = .g ∨ x = .row 4) w w') : OutAt w' oa on oc ps :=
 ho.fr hf.size fun k cs T fr hc ht => hf.block k (Array.getElem?_eq_some_iff.1 hc).1 (fun x hx hS => by
  obtain ⟨t1, t2, t3, t4, t5, t6, -⟩ := typesO;rcases hS with rfl | rfl
  ·have e : k = g := hx;rw [e] at hc;have h9 := kind_eq h.row hc;rcases ht with ht | ht | ht
   ·exact t1 (h9.trans ht)
   ·exact t2 (h9.trans ht)
   ·exact t3 (h9.trans ht)
  ·obtain ⟨cur, h8⟩ := own_kind (h.rows 4 (by omega)) (k := k) hx.2;have h9 := kind_eq h8 hc;rcases ht with ht | ht | ht
   ·exact t4 (h9.trans ht)
   ·exact t5 (h9.trans ht)
   ·exact t6 (h9.trans ht))
theorem postCells : ∀ (ps : List MPost) (k : Nat) (m : MPost), ps[k]? = some m → ∀ j, j < 9 → (ps.flatMap MPost.cells)[k * 9 + j]? = m.cells[j]?
 | [], k, m, h => by simp at h
 | x :: ps, 0, m, h => by
  simp at h; subst h;intro j hj;rw [List.flatMap_cons, List.getElem?_append_left (by show 0 * 9 + j < 9; omega)]
  congr 1; omega
 | x :: ps, k + 1, m, h => by
  intro j hj;rw [List.flatMap_cons, List.getElem?_append_right (by show 9 ≤ (k + 1) * 9 + j; omega)];have h9 := postCells ps k m (by simpa using h) j hj;rw [← h9]
  congr 1
  show (k + 1) * 9 + j - 9 = _;omega
theorem OutAt.cells {oa : Option Addr} {on oc : Nat} {ps : List MPost} (h : OutAt w oa on oc ps) {k : Nat} {m : MPost} (hm : ps[k]? = some m) : ∃ ob, oa = some ⟨ob, 0, none⟩ ∧ ob < w.heap.size ∧ ∀ j, j < 9 → w.cell? ⟨ob, k * 9 + j, none⟩ = m.cells[j]? := by
 have hk := (List.getElem?_eq_some_iff.1 hm).1;have hln := h.ln;rcases h.ro.2 with ⟨h1, h2⟩ | ⟨ob, cap, cur, h1, h2, h3, -⟩
 ·have h9 := h.ro.1;rw [h2] at h9;have h8 : (ps.flatMap MPost.cells).length = ps.length * 9 := by
   clear h hm hk hln h1 h2 h9
   induction ps with
   | nil => rfl
   | cons x ps ih => rw [List.flatMap_cons, List.length_append, ih, List.length_cons]; show 9 + ps.length * 9 = _; omega
  omega
 ·injection h1 with h1
  have hro := h.ro;rw [h1] at hro;refine ⟨ob, h1, (Array.getElem?_eq_some_iff.1 h3).1, fun j hj => ?_⟩;rw [hro.cellAt (k * 9 + j) (by omega)];exact postCells ps k m hm j hj
theorem mailAdd_snoc (i : Nat) (y : PPost) : ∀ (l : List PPost) (bag : List PMail), mailAdd i bag (l ++ [y]) = if (mailAdd i bag l).length < 2000 then mailAdd i bag l ++ [((i : Int), y.1, putL y.2)] else mailAdd i bag l
 | [], bag => rfl
 | x :: l, bag => by
  show mailAdd i (if bag.length < 2000 then _ else bag) (l ++ [y]) = _;rw [mailAdd_snoc i y l];rfl
theorem infoMail : (Tryz.prog.info? 99).map (fun i => (i.zero, i.size, i.bytes)) = some (some (.agg #[.int .i64 0, .int .i64 0, .slice none 0 0]), 3, 40) := by kernel_rfl
theorem infoMails1 : (Tryz.prog.info? 64).map (·.size) = some 1 := by kernel_rfl
structure MlS (g b0 n cap ob o : Nat) (t : Int) (W : World) : Prop where
 s : g < W.heap.size
 r : W.cell? ⟨g, 8, none⟩ = some (.bool true)
 o : W.cell? ⟨ob, o, none⟩ = some (.int .i64 t)
 c0 : W.cell? ⟨g, 0, none⟩ = some (.slice (some ⟨b0, 0, none⟩) n cap)
theorem MlS.below {b0 n cap ob o : Nat} {t : Int} (h : MlS g b0 n cap ob o t w) (hb : Below w.heap.size w w') : MlS g b0 n cap ob o t w' :=
 ⟨Nat.lt_of_lt_of_le h.s hb.size, (hb.cell (p := ⟨g, 8, none⟩) h.s).trans h.r, (hb.cell (p := ⟨ob, o, none⟩) (cell_lt9 h.o)).trans h.o, (hb.cell (p := ⟨g, 0, none⟩) h.s).trans h.c0⟩
theorem GrAt.grewFr (h : GrAt w B g c G M) {j : Nat} (hj : j < 8) (hg : w.grownBy w1 (rowV G M j).ownBlock) (k : Nat) (v : Value) : GFr g M (fun x => x = .g ∨ x = .row j) w (w1.setCell ⟨g, k, none⟩ v) :=
 ⟨hg.os, hg.tape, hg.output, by simpa using hg.size, fun b hb hx => by
  have h1 : b ≠ g := fun e => hx .g e (.inl rfl)
  exact (Below.heap_setCell _ _ _ b h1).trans (hg.block b hb (fun e => hx (.row j) ⟨hj, by unfold rowV at e; rw [ownBlock_eq] at e; exact e.symm⟩ (.inr rfl)))⟩
structure MgS (g ob o : Nat) (t : Int) (W : World) : Prop where
 s : g < W.heap.size
 o : W.cell? ⟨ob, o, none⟩ = some (.int .i64 t)
theorem MgS.below {ob o : Nat} {t : Int} (h : MgS g ob o t w) (hb : Below w.heap.size w w') : MgS g ob o t w' :=
 ⟨Nat.lt_of_lt_of_le h.s hb.size, (hb.cell (p := ⟨ob, o, none⟩) (cell_lt9 h.o)).trans h.o⟩
structure BiS (g ib : Nat) (t : Int) (a : Option Addr) (n c : Nat) (W : World) : Prop where
 s : g < W.heap.size
 c0 : W.cell? ⟨ib, 0, none⟩ = some (.int .i64 t)
 c1 : W.cell? ⟨ib, 1, none⟩ = some (.slice a n c)
theorem BiS.of {ib : Nat} {t : Int} {a : Option Addr} {n k : Nat} (hs : g < w.heap.size) (hr : w.heap[ib]? = some (.cells #[.int .i64 t, .slice a n k] 40 (0, 0))) : BiS g ib t a n k w :=
 ⟨hs, by rw [cell_of_row _ _ 0 _ _ _ hr]; rfl, by rw [cell_of_row _ _ 1 _ _ _ hr]; rfl⟩
theorem infoInts9 : (Tryz.prog.info? 63).map (·.size) = some 1 := by kernel_rfl
structure NtS (g nb n cap : Nat) (W : World) : Prop where
 s : g < W.heap.size
 c2 : W.cell? ⟨g, 2, none⟩ = some (.slice (some ⟨nb, 0, none⟩) n cap)
theorem RTouch.besides {p : Nat} {N N' : RMem} {wa wb wc wd : World} (h1 : Below wa.heap.size wa wb) (h2 : RTouch p N N' wb wc) {o : Option Nat} (h3 : wc.grownBy wd o) (ho : ∀ k, o = some k → wa.heap.size ≤ k) (hN : ∀ k, N'.own p k → N.own p k) : RTouch p N N' wa wd := by
 have hs1 := h1.size;have hs2 := h2.size;have hs3 := h3.size;refine ⟨h3.os.trans (h2.os.trans h1.os), h3.tape.trans (h2.tape.trans h1.tape), h3.output.trans (h2.output.trans h1.output), by omega, fun k hk hno => ?_, fun k hk => .inl (hN k hk)⟩;exact (h3.block k (by omega) (fun e => by have := ho k e.symm; omega)).trans ((h2.block k (by omega) hno).trans (h1.block k hk))
end
end Go.Proofs.YtogcnfhmcpkdcaaGreat
