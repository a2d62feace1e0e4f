/-
  What is read of the arguments, as words on memory: any type by its parts. No program in sight.
  The seat's own types, read by their parts.
-/
import Derived.Test.YtogcnfhmcpkdcaaGreatMemB
import Derived.Test.YtogcnfhmcpkdcaaGreatRows
import Derived.ProofKit
import Derived.OpenShut
import Derived.ChangeOld
import Derived.Deep.Slices
namespace Go.Proofs.YtogcnfhmcpkdcaaGreat
open Go.ChangeShapes Go.WideShapes Go.ChangeAt Go.RowKit
def Rd {H : Type} (enc : TypeId × Value → H) (P : Program) (w : World) (t : TypeId) (cs : List Value) : Prop :=
 ∃ fuel x, DataW.trod enc P w 0 (fun _ => true) true fuel t cs = some x
section
variable {H : Type} {enc : TypeId × Value → H} {P : Program} {w : World} {t : TypeId} {cs : List Value}
theorem Rd.of {v : Value} {d : DataW H} {ps : List MemPlace} (h : DataW.Trod enc P w 0 (fun _ => true) true t v d ps) : Rd enc P w t v.cells.toList :=
 let ⟨f, hf⟩ := h; ⟨f, _, hf⟩
theorem trod_lt_of {v : Value} {d : DataW H} {ps : List MemPlace} (h : DataW.Trod enc P w 0 (fun _ => true) true t v d ps) : ∀ x ∈ ps, x.block < w.heap.size := by
 obtain ⟨m, hm⟩ := h; exact DataW.trod_lt m _ _ _ hm
theorem Rd.int {k : IntKind} (h : Rd enc P w t cs) (ht : P.underlying t = some (.int k)) : ∃ n, cs = [.int k n] ∧ (Lit.int k n).wf = true := by
 obtain ⟨f, x, h⟩ := h;obtain ⟨n, h1, _, h2⟩ := DataW.trod_int ht h;exact ⟨n, h1, h2⟩
theorem Rd.struct {fs : Array Field} (h : Rd enc P w t cs) (ht : P.underlying t = some (.struct fs)) :
  cs.length = P.cellsOf t ∧ ∀ (i : Nat) (f : Field), fs[i]? = some f → Rd enc P w f.type ((cs.drop f.offset).take (P.cellsOf f.type)) := by
 obtain ⟨fu, x, h⟩ := h;obtain ⟨xs, n, _, _, h1, h2, h3⟩ := DataW.trod_struct ht h;refine ⟨h1, fun i f hf => ?_⟩;have hi : i < xs.length := by rw [h2]; exact (Array.getElem?_eq_some_iff.1 hf).1
 have := h3 i f hf;rw [List.getElem?_eq_getElem hi] at this;exact ⟨n, _, this⟩
theorem mapM_cells {f : Nat → Option Value} : ∀ (n : Nat) (l : List Value), (List.range n).mapM f = some l → l.length = n ∧ ∀ i, i < n → f i = l[i]? := by
 intro n
 induction n with
 | zero => intro l h; simp at h; subst h; exact ⟨rfl, fun i hi => by omega⟩
 | succ n ih =>
  intro l h;rw [List.range_succ, List.mapM_append] at h;simp only [List.mapM_cons, List.mapM_nil, Option.bind_eq_bind, Option.bind_eq_some_iff, Option.pure_def] at h;obtain ⟨l1, h1, y, ⟨z, h2, h3⟩, h4⟩ := h;simp at h3 h4;subst h3 h4;obtain ⟨hl, hi⟩ := ih l1 h1;refine ⟨by simp [hl], fun i hi' => ?_⟩;rcases Nat.lt_or_eq_of_le (Nat.le_of_lt_succ hi') with h | h
  ·rw [List.getElem?_append_left (by omega)]; exact hi i h
  ·subst h; rw [List.getElem?_append_right (by omega), hl]; simpa using h2
theorem Rd.slice {e : TypeId} {size : Nat} (h : Rd enc P w t cs) (ht : P.underlying t = some (.slice e)) (hc : P.cellsOf e = size) (hs : 0 < size) :
  ∃ a n c xs, cs = [.slice a n c] ∧ SlAt w w.heap.size size a n c xs ∧ ∀ i, i < n → Rd enc P w e ((xs.drop (i * size)).take size) := by
 subst hc;obtain ⟨f, x, h⟩ := h;rcases Deep.open_slice ht h with ⟨rfl, _⟩ | ⟨a, n, c, m, fu, D, Pl, rfl, _, hn, hm, hmm, _, hel⟩
 ·exact ⟨none, 0, 0, [], rfl, ⟨by simp, Nat.le_refl _, by simp [maxLen], fun _ => rfl, fun hp => by simp at hp⟩, fun i hi => by omega⟩
 ·simp only [if_true] at hmm;subst hmm;have hcell : ∀ i, i < n → ∃ l : List Value, l.length = P.cellsOf e ∧ (∀ j, j < P.cellsOf e → w.cell? ((a.add (i * P.cellsOf e)).add j) = l[j]?) ∧ Rd enc P w e l := by
   intro i hi;obtain ⟨l, h1, h2⟩ := hel i (by omega);simp only [World.cells?, Nat.zero_le, if_true] at h1;obtain ⟨h3, h4⟩ := mapM_cells _ _ h1;exact ⟨l, h3, h4, ⟨_, _, h2⟩⟩
  obtain ⟨L, hL⟩ := Deep.choose_lt (α := List Value) (p := fun i l => l.length = P.cellsOf e ∧ (∀ j, j < P.cellsOf e → w.cell? ((a.add (i * P.cellsOf e)).add j) = l[j]?) ∧ Rd enc P w e l) hcell;have hflat : ∀ k, k ≤ n → ((List.range k).flatMap L).length = k * P.cellsOf e ∧ ∀ i, i < k → (((List.range k).flatMap L).drop (i * P.cellsOf e)).take (P.cellsOf e) = L i := by
   intro k
   induction k with
   | zero => intro _; simp
   | succ k ih =>
    intro hk;obtain ⟨h1, h2⟩ := ih (by omega);have hLk := (hL k (by omega)).1;rw [List.range_succ, List.flatMap_append];simp only [List.flatMap_cons, List.flatMap_nil, List.append_nil];refine ⟨by rw [List.length_append, h1, hLk, Nat.succ_mul], fun i hi => ?_⟩;rcases Nat.lt_or_eq_of_le (Nat.le_of_lt_succ hi) with h | h
    ·have hle : (i + 1) * P.cellsOf e ≤ k * P.cellsOf e := Nat.mul_le_mul_right _ (by omega);rw [Nat.succ_mul] at hle;rw [List.drop_append_of_le_length (by rw [h1]; omega), List.take_append_of_le_length (by rw [List.length_drop, h1]; omega)];exact h2 i h
    ·subst h;rw [List.drop_append_of_le_length (by rw [h1]; exact Nat.le_refl _), ← h1, List.drop_length, List.nil_append, ← hLk, List.take_length]
  obtain ⟨hlen, hpart⟩ := hflat n (Nat.le_refl _);refine ⟨some a, n, m, (List.range n).flatMap L, rfl, ⟨hlen, hn, hm, fun e => by simp at e, fun hp => ?_⟩, fun i hi => by rw [hpart i hi]; exact (hL i hi).2.2⟩;have hn0 : 0 < n := by
   rcases Nat.eq_zero_or_pos n with h | h
   ·subst h; simp at hp
   ·exact h
  have h0 : w.cell? ((a.add (0 * P.cellsOf e)).add 0) = (L 0)[0]? := (hL 0 hn0).2.1 0 hs;rw [Nat.zero_mul] at h0;simp only [Addr.add, if_true] at h0;rw [List.getElem?_eq_getElem (by rw [(hL 0 hn0).1]; exact hs)] at h0;have hspot : a.spot = Option.none := World.cell?_spot h0;obtain ⟨b, o, sp⟩ := a;simp only at hspot;subst hspot;refine ⟨b, o, rfl, World.block_lt_of_cell? _ _ h0, fun i hi => ?_⟩;rw [hlen] at hi;have hi1 : i / P.cellsOf e < n := (Nat.div_lt_iff_lt_mul hs).2 hi;have hi2 : i % P.cellsOf e < P.cellsOf e := Nat.mod_lt _ hs;have hx := (hL _ hi1).2.1 _ hi2;have hadd : ((⟨b, o, Option.none⟩ : Addr).add (i / P.cellsOf e * P.cellsOf e)).add (i % P.cellsOf e) = ⟨b, o + i, Option.none⟩ := by
   have := Nat.div_add_mod i (P.cellsOf e);rw [Nat.mul_comm] at this;unfold Addr.add;split <;> split <;> simp_all <;> omega
  rw [hadd] at hx;rw [hx, ← hpart _ hi1, List.getElem?_take_of_lt hi2, List.getElem?_drop]
  congr 1
  have := Nat.div_add_mod i (P.cellsOf e);rw [Nat.mul_comm] at this;exact this
end
theorem open_slAt {H : Type} {enc : TypeId × Value → H} {P : Program} {w : World} {t e : TypeId} {size : Nat} {v : Value} {d : DataW H} {ps : List MemPlace} {r : Reach} {base : Nat}
  (hok : Value.okWide P w r base t v) (h : DataW.Trod enc P w 0 (fun _ => true) true t v d ps) (ht : P.underlying t = some (.slice e)) (hc : P.cellsOf e = size) (hs : 0 < size) :
  ∃ a n c xs, v = .slice a n c ∧ SlAt w w.heap.size size a n c xs ∧ ∀ i, i < n → Rd enc P w e ((xs.drop (i * size)).take size) := by
 obtain ⟨a0, n0, c0, rfl⟩ := okWide_slice ht hok;obtain ⟨a, n, c, xs, h1, h2, h3⟩ := (Rd.of h).slice ht hc hs;simp [Value.cells] at h1;obtain ⟨rfl, rfl, rfl⟩ := h1;exact ⟨_, _, _, _, rfl, h2, h3⟩
end Go.Proofs.YtogcnfhmcpkdcaaGreat
namespace Go.Proofs.YtogcnfhmcpkdcaaGreat
open Go.ChangeShapes Go.WideShapes Go.ChangeAt Go.RowKit
set_option maxRecDepth 100000
section
variable {H : Type} {enc : TypeId × Value → H} {w : World} {cs : List Value}
theorem cells3 : Tryz.prog.cellsOf 3 = 1 := by kernel_rfl
theorem cells4 : Tryz.prog.cellsOf 4 = 1 := by kernel_rfl
theorem cells80 : Tryz.prog.cellsOf 80 = 2 := by kernel_rfl
theorem cells82 : Tryz.prog.cellsOf 82 = 7 := by kernel_rfl
theorem list7 {α : Type} {l : List α} (h : l.length = 7) : ∃ a b c d e f g, l = [a, b, c, d, e, f, g] := by
 match l, h with
 | [a, b, c, d, e, f, g], _ => exact ⟨a, b, c, d, e, f, g, rfl⟩
end
end Go.Proofs.YtogcnfhmcpkdcaaGreat
