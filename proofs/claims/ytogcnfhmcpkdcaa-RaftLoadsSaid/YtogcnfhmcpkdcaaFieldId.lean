/-
  Contract of Eye.Id.
-/
import Derived.Test.YtogcnfhmcpkdcaaField4
import Derived.Laws.Cover3
import Derived.Deep.MidRow
import Derived.Laws.Tables
namespace Go.Proofs.Ytogcnfhmcpkdcaa
open Go.RowKit
set_option linter.unusedVariables false

theorem infoId : (Try.prog.info? 56).map (·.size) = some 32 := by kernel_rfl

theorem getD_map_bv (l : List UInt8) (i : Nat) (h : i < l.length) : (l.map bv)[i]? = some (.int .u8 ((l.getD i 0).toNat : Int)) := by
  simp [bv, List.getD, List.getElem?_eq_getElem h]

/-- bytes in memory as a range of cells -/
theorem BsAt.range {w : World} {B b o n c : Nat} {l : List UInt8} (h : BsAt w B (some ⟨b, o, none⟩) n c l) : w.rangeAt b o (l.map bv) := by
  intro j v hj
  have hl : j < l.length := by have := (List.getElem?_eq_some_iff.1 hj).1; simpa using this
  have hn : j < n := by have := h.hlen; omega
  obtain ⟨b', o', e, hb, hc⟩ := h.hat (by omega)
  simp at e
  obtain ⟨rfl, rfl⟩ := e
  rw [hc j hn, ← hj, getD_map_bv l j hl]

theorem bvs_one (l : List UInt8) : (l.map bv).toArray.all (·.oneCell') = true :=
  all_oneCell_toArray (fun v hv => by obtain ⟨x, _, rfl⟩ := List.mem_map.1 hv; rfl)

set_option maxHeartbeats 1000000 in
set_option maxRecDepth 100000 in
theorem eyeId (q : Nat) (l : List UInt8) (w : World) (h : EyeAt w q l) :
    Calls Try.prog 114 #[.pointer (some ⟨q, 0, none⟩)] w fun e w' => EyeRead q (getTake 32 l) w w' e fun v => e = .returned (.agg (v.map bv).toArray) := by
  obtain ⟨N, hN⟩ : ∃ N, N = getTake 32 l := ⟨_, rfl⟩
  rw [← hN]
  have HN := Lib.hid hN
  have hq := h.1
  clear hN
  go_enter Try.func114, Try.ntmps114
  go_wp2_with fail
  refine (eyeTake q 32 _ _ (h.below ((Below.refl _ w).alloc (Nat.le_refl _) _))).mono ?_
  rintro e w1 ⟨hb, hno, hyes⟩
  have hrc := (hb.block w.heap.size (by simp) (by omega)).trans (heap_alloc_new w _)
  have HB := Lib.hid (hb.ofAlloc hq)
  have hsz := hb.size
  simp only [World.size_alloc] at hsz
  clear hb
  by_cases hl : l.length < 32
  · obtain rfl := hno hl
    have hN : N = .err 2 := by rw [HN.out]; simp [getTake, hl]
    subst hN
    clear hno hyes hl
    go_wp2
    exact ⟨rfl, HB.out, rfl⟩
  · obtain ⟨a, rfl, hbs, heye⟩ := hyes (by omega)
    have hN : N = .ok (l.take 32) (l.drop 32) := by rw [HN.out]; simp [getTake, hl]
    subst hN
    clear hno hyes
    obtain ⟨b, o, rfl, hb2, -⟩ := hbs.hat (by omega)
    have hrg := hbs.range
    have hlen : ((l.take 32).map bv).length = 32 := by simp; omega
    clear hl
    obtain ⟨cs, hcs⟩ : ∃ cs, cs = (l.take 32).map bv := ⟨_, rfl⟩
    have hone : cs.toArray.all (·.oneCell') = true := by rw [hcs]; exact bvs_one _
    rw [← hcs] at hrg hlen
    have HCS := Lib.hid hcs
    have hsz2 : cs.toArray.size = 32 := by rw [List.size_toArray, hlen]
    have HSZ := Lib.hid hsz2
    have HLEN := Lib.hid hlen
    clear hsz2
    have HRG := Lib.hid hrg
    have HRC := Lib.hid hrc
    have HE := Lib.hid heye
    have HONE := Lib.hid hone
    clear hcs hrc hrg hbs heye hlen hone
    have har : ∀ w : World, (Instr.arrayAt 56 (.slice (some ⟨b, o, none⟩) 32 32)).run Try.prog w = .ok (.pointer (some ⟨b, o, none⟩)) w := fun w => run_arrayAt w 56 5 32 _ 32 32 Try.underlying56 (by omega)
    go_wp2_with (first
      | (with_reducible refine wpList_load_mid rfl 56 (.tmp 5) rfl b o rfl cs _ HRG.out Try.underlying56 rfl (by rw [HLEN.out]; exact infoId) ?_)
      | (refine wpList_store_row rfl 56 (.tmp 2) (.tmp 6) rfl w.heap.size cs.toArray rfl rfl 56 _ HRC.out (by rw [HSZ.out]; exact infoId) HSZ.out.symm HONE.out ?_))
    refine bodyPost_ret (results_cell_row rfl _ _ w.heap.size 56 cs.toArray (0, 0) _ rfl (setRow_heap _ _ _ _ _ _ HRC.out) Try.underlying56 rfl (by rw [HSZ.out]; exact infoId)) rfl ?_
    exact ⟨HB.out.andBelow hq (below_setRow _ _ (Nat.le_refl _)), by rw [HCS.out], HE.out.keep (below_setRow _ _ (by omega))⟩
end Go.Proofs.Ytogcnfhmcpkdcaa
