/-
  Contract of Eye.Id.
  Contracts of Pen.Text and Pen.Id.
-/
import Derived.Test.YtogcnfhmcpkdcaaGreatField4
import Derived.Test.YtogcnfhmcpkdcaaGreatPenM
import Derived.Test.YtogcnfhmcpkdcaaGreatSlMem
import Derived.Laws.Cover3
import Derived.Deep.MidRow
import Derived.Laws.Tables
namespace Go.Proofs.YtogcnfhmcpkdcaaGreat
open Go.RowKit
set_option linter.unusedVariables false

theorem getD_map_bv (l : List UInt8) (i : Nat) (h : i < l.length) : (l.map bv)[i]? = some (.int .u8 ((l.getD i 0).toNat : Int)) := by
  simp [bv, List.getD, List.getElem?_eq_getElem h]

/-- bytes in memory as a range of cells -/
theorem BsAt.range {w : World} {B b o n c : Nat} {l : List UInt8} (h : BsAt w B (some ⟨b, o, none⟩) n c l) : w.rangeAt b o (l.map bv) := by
  intro j v hj
  have hl : j < l.length := by have := (List.getElem?_eq_some_iff.1 hj).1; simpa using this
  have hn : j < n := by have := h.hlen; omega
  obtain ⟨b', o', e, hb, hc⟩ := h.hat (by omega)
  simp at e
  obtain ⟨rfl, rfl⟩ := e
  rw [hc j hn, ← hj, getD_map_bv l j hl]

theorem bvs_one (l : List UInt8) : (l.map bv).toArray.all (·.oneCell') = true :=
  all_oneCell_toArray (fun v hv => by obtain ⟨x, _, rfl⟩ := List.mem_map.1 hv; rfl)

end Go.Proofs.YtogcnfhmcpkdcaaGreat

namespace Go.Proofs.YtogcnfhmcpkdcaaGreat
open Go.RowKit
set_option linter.unusedVariables false
set_option linter.unusedSimpArgs false
attribute [local go_sem ↓] Go.wp_at_zero Go.wp_at_succ

/-- a pen behind an append onto its row, laid back into it -/
theorem PenAt.append {U8 : TypeId} {A w1 : World} {q : Nat} {v v' : Value} {l m : List UInt8} (h : PenAt U8 A q v l) (hown : w1.ownsRow (q + 1) U8 1 v' (l.length + m.length) (l.map bv ++ m.map bv))
    (hgrow : A.grownBy w1 v.ownBlock) (hat : v'.ownBlock = v.ownBlock ∨ v'.ownBlock = some A.heap.size) :
    PenAt U8 (w1.setCell ⟨q, 0, none⟩ v') q v' (l ++ m) ∧ Penned q v A (w1.setCell ⟨q, 0, none⟩ v') v' := by
  have hqv : v.ownBlock ≠ some q := fun e => by have := (own_lt h.own e).1; omega
  have hsz := hgrow.size
  have hqA := h.lt
  have hqb : w1.heap[q]? = A.heap[q]? := hgrow.block q hqA (fun e => hqv e.symm)
  have hcell : w1.cell? ⟨q, 0, none⟩ = some v := (World.cell?_of_block (a := ⟨q, 0, none⟩) hqb).trans h.cell
  have hother : ∀ k, k ≠ q → (w1.setCell ⟨q, 0, none⟩ v').heap[k]? = w1.heap[k]? := fun k hk => Below.heap_setCell _ _ _ k hk
  refine ⟨⟨by simp; omega, World.cell?_setCell_same _ _ _ hcell, ?_, ?_⟩, ⟨hgrow.os, hgrow.tape, hgrow.output, by simpa using hsz, fun k hk hkq hkv => (hother k hkq).trans (hgrow.block k hk (fun e => hkv e.symm)), ?_⟩⟩
  · rw [World.frozen?_setCell]; exact (World.frozen?_of_block (a := ⟨q, 0, none⟩) hqb).trans h.free
  · rw [List.length_append, List.map_append]
    refine ⟨hown.1, ?_⟩
    rcases hown.2 with ⟨h0, h00⟩ | ⟨g', cap', cur, h0, h1, h2, h3, h4, h5, h6⟩
    · exact .inl ⟨h0, h00⟩
    · exact .inr ⟨g', cap', cur, h0, h1, (hother g' (by omega)).trans h2, h3, h4, h5, h6⟩
  · rcases hat with e | e
    · exact .inl e
    · exact .inr ⟨_, e, Nat.le_refl _⟩

theorem PenAt.far {U8 : TypeId} {A w1 : World} {q : Nat} {v : Value} {l : List UInt8} (h : PenAt U8 A q v l) (hgrow : A.grownBy w1 v.ownBlock) : w1.cell? ⟨q, 0, none⟩ = some v ∧ w1.frozen? ⟨q, 0, none⟩ = false := by
  have hqv : v.ownBlock ≠ some q := fun e => by have := (own_lt h.own e).1; omega
  have hqb : w1.heap[q]? = A.heap[q]? := hgrow.block q h.lt (fun e => hqv e.symm)
  exact ⟨(World.cell?_of_block (a := ⟨q, 0, none⟩) hqb).trans h.cell, (World.frozen?_of_block (a := ⟨q, 0, none⟩) hqb).trans h.free⟩

set_option maxRecDepth 100000 in
set_option maxHeartbeats 2000000 in
theorem penText (q : Nat) (v : Value) (l : List UInt8) (hl : l.length ≤ 1000000) (m : List UInt8) (am : Option Addr) (n c : Nat) (hn : n ≤ 1000000) (w : World) (hm : BsAt w q am n c m) (h : PenAt 5 w q v l) :
    Calls Tryz.prog 36 #[.pointer (some ⟨q, 0, none⟩), .slice am n c] w fun e w' => e = .returned (.tuple #[]) ∧ ∃ v', PenAt 5 w' q v' (l ++ putText m) ∧ Penned q v w w' v' := by
  obtain ⟨i0, hi, hz0, hz1, hz2⟩ := info_parts infoU8
  have hlen := hm.hlen
  subst hlen
  have H := Lib.hid h
  have HM := Lib.hid hm
  clear h hm
  go_enter Tryz.func36, Tryz.ntmps36
  go_wp2_with fail
  refine (penNum q m.length (by omega) v l hl w H.out).mono ?_
  rintro e w1 ⟨rfl, v1, hp1, ht1⟩
  have hb1 := ht1.below H.out (Nat.le_refl q)
  have HM1 := Lib.hid (HM.out.below hb1 (Nat.le_refl _))
  obtain ⟨L, hL⟩ : ∃ L, L = l ++ putNum m.length := ⟨_, rfl⟩
  have hpl : L.length ≤ 1000009 := by have := le_len8 (show m.length < 18446744073709551616 by omega); rw [hL]; simp [putNum]; omega
  rw [← hL] at hp1
  have HL := Lib.hid hL
  have HP1 := Lib.hid hp1
  have HT1 := Lib.hid ht1
  have hc1 := hp1.cell
  have hf1 := hp1.free
  have hsz := hp1.lt
  clear hp1 ht1 hb1 hL
  go_wp2_with (at_builtin; refine wpList_append_sl _ rfl _ _ 27 rfl (q + 1) 5 i0 (.int .u8 0) 1 1 Tryz.underlying27 hi hz0 hz1 hz2 rfl (by decide) _ _ _ rfl HP1.out.own q am m.length c (m.map bv) rfl HM1.out.sl (bvs_oneCell _) ?c1 ?c2 ?c3 ?_)
  case c1 => unfold maxLen; omega
  case c2 => omega
  case c3 => omega
  intro a2 c2 w2 hown hgrow hat
  obtain ⟨hc2, hf2⟩ := HP1.out.far hgrow
  have hfin := HP1.out.append hown hgrow hat
  have HF := Lib.hid hfin
  clear hown hgrow hat hfin
  go_wp2
  go_end0
  obtain ⟨f1, f2⟩ := HF.out
  exact ⟨rfl, _, by rw [putText, ← List.append_assoc, ← HL.out]; exact f1, HT1.out.trans f2⟩

end Go.Proofs.YtogcnfhmcpkdcaaGreat
