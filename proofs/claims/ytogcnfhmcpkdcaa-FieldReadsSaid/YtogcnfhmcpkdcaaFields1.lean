/-
  Rows of fields in memory; contracts of the reference's Pick, of kind.
-/
import Derived.Test.YtogcnfhmcpkdcaaOpenFields
import Derived.Test.YtogcnfhmcpkdcaaWideOps2
import Derived.Test.YtogcnfhmcpkdcaaHeld
import Derived.Test.YtogcnfhmcpkdcaaRefNum
import Derived.Test.YtogcnfhmcpkdcaaVote8
namespace Go.Proofs.Ytogcnfhmcpkdcaa
open Go.RowKit
set_option linter.unusedVariables false
set_option linter.unusedSimpArgs false

theorem tmod3 (k : Int) : -3 < k.tmod 3 ∧ k.tmod 3 < 3 ∧ k % 3 = if k.tmod 3 < 0 then k.tmod 3 + 3 else k.tmod 3 := by
  have h := @Int.tmod_eq_emod k 3
  have h2 := Int.emod_nonneg k (show (3 : Int) ≠ 0 by omega)
  have h3 := Int.emod_lt_of_pos k (show (0 : Int) < 3 by omega)
  have e3 : (Int.natAbs 3 : Int) = 3 := rfl
  by_cases hc : 0 ≤ k ∨ (3 : Int) ∣ k
  · rw [if_pos hc] at h
    have h5 : k.tmod 3 = k % 3 := by simpa using h
    rw [if_neg (by omega)]; omega
  · rw [if_neg hc, e3] at h
    have h4 : k % 3 ≠ 0 := fun e => hc (.inr (Int.dvd_of_emod_eq_zero e))
    rw [if_pos (by omega)]; omega

theorem pick3 (k : Int) (w : World) :
    Calls Try.prog 112 #[.int .i64 k, .int .i64 3] w fun e w' => e = .returned (.int .i64 (k % 3)) ∧ w = w' := by
  obtain ⟨hb, hb2, he⟩ := tmod3 k
  by_cases h0 : k.tmod 3 < 0
  · rw [if_pos h0] at he
    have HE := Lib.hid he
    clear he
    go_enter Try.func112, Try.ntmps112
    go_wp2
    go_ret
    exact ⟨ret_int (by rw [HE.out]), rfl⟩
  · rw [if_neg h0] at he
    have HE := Lib.hid he
    clear he
    go_enter Try.func112, Try.ntmps112
    go_wp2
    go_ret
    exact ⟨ret_int (by rw [HE.out]), rfl⟩

/-- the cells of a field -/
def MF.agg (m : MF) : Array Value := m.cells.toArray
theorem MF.agg_size {m : MF} (h : m.f.d.length = 32) : m.agg.size = 35 := by rw [MF.agg, List.size_toArray]; simp [MF.cells, h]
theorem MF.agg_one (m : MF) : m.agg.all (·.oneCell') = true := by
  refine all_oneCell_toArray (fun v hv => ?_)
  simp only [MF.cells, List.mem_cons, List.mem_map] at hv
  rcases hv with rfl | rfl | rfl | ⟨x, _, rfl⟩ <;> rfl

theorem frow_cells {W : World} {g : Nat} {T : TypeId} {m : MF} (h : W.heap[g]? = some (.cells m.agg T (0, 0))) :
    W.cell? ⟨g, 0, none⟩ = some (.int .i64 m.f.k) ∧ W.cell? ⟨g, 1, none⟩ = some (.int .u64 m.f.n) ∧ W.cell? ⟨g, 2, none⟩ = some (.slice m.a m.f.t.length m.c) ∧ W.rangeAt g 3 (m.f.d.map bv) ∧ ∀ o, W.frozen? ⟨g, o, none⟩ = false := by
  refine ⟨?_, ?_, ?_, ?_, fun o => frozen_of_row _ _ _ _ _ h⟩
  · rw [cell_of_row _ _ _ _ _ _ h]; rfl
  · rw [cell_of_row _ _ _ _ _ _ h]; rfl
  · rw [cell_of_row _ _ _ _ _ _ h]; rfl
  · intro j v hj
    rw [cell_of_row _ _ _ _ _ _ h, MF.agg, List.getElem?_toArray, Nat.add_comm]
    simp only [MF.cells, List.getElem?_cons_succ]
    exact hj

/-- a field with its kind below 3 -/
def MF.kind (m : MF) : MF := ⟨⟨m.f.k % 3, m.f.n, m.f.t, m.f.d⟩, m.a, m.c⟩

theorem MF.agg_kind (m : MF) : m.agg.setIfInBounds 0 (.int .i64 (m.f.k % 3)) = m.kind.agg := by simp [MF.agg, MF.kind, MF.cells]

theorem zero_field (w : World) : (zeroValue 58).run Try.prog w = .ok (.agg (MF.agg ⟨⟨0, 0, [], zeros32⟩, none, 0⟩)) w := by kernel_rfl

set_option maxRecDepth 100000 in
set_option maxHeartbeats 2000000 in
theorem kindF (m : MF) (hm : m.f.d.length = 32) (w : World) :
    Calls Try.prog 38 #[.agg m.agg] w fun e w' => e = .returned (.agg m.kind.agg) ∧ Below w.heap.size w w' := by
  have HS := Lib.hid (MF.agg_size hm)
  have HZ := Lib.hid (MF.agg_size (m := ⟨⟨0, 0, [], zeros32⟩, none, 0⟩) (by simp [zeros32]))
  have HK := Lib.hid (MF.agg_size (m := m.kind) hm)
  clear hm
  go_enter Try.func38, Try.ntmps38
  go_wp2_with (first
    | (refine wpList_box_abs rfl 58 (.tmp 0) rfl m.agg rfl ?_; intro W0 hrow0 hb0 hs0; have HROW0 := Lib.hid hrow0; have HB0 := Lib.hid hb0; obtain ⟨c0, -, -, -, f0⟩ := frow_cells hrow0; have ff := f0 0; clear hrow0 hb0 f0)
    | (refine wpList_alloc_abs rfl 58 rfl (MF.agg ⟨⟨0, 0, [], zeros32⟩, none, 0⟩) zero_field ?_; intro W1 hrow1 hb1 hs1; have HROW1 := Lib.hid hrow1; have HB1 := Lib.hid hb1; have HRM := Lib.hid ((hb1.block w.heap.size (by omega)).trans HROW0.out); have d0 := (hb1.cell (p := ⟨w.heap.size, 0, none⟩) (by show w.heap.size < _; omega)).trans c0; have df := (hb1.frozen (p := ⟨w.heap.size, 0, none⟩) (by show w.heap.size < _; omega)).trans ff; clear hrow1 hb1 c0 ff))
  refine (pick3 _ _).mono ?_
  rintro e w2 ⟨rfl, rfl⟩
  have hrl : (W1.setCell ⟨w.heap.size, 0, none⟩ (.int .i64 (m.f.k % 3))).heap[w.heap.size]? = some (.cells m.kind.agg 58 (0, 0)) := by
    have := heap_setCell_same W1 w.heap.size 0 _ _ (.int .i64 (m.f.k % 3)) HRM.out
    rwa [MF.agg_kind] at this
  have hr1 : (W1.setCell ⟨w.heap.size, 0, none⟩ (.int .i64 (m.f.k % 3))).heap[w.heap.size + 1]? = some (.cells (MF.agg ⟨⟨0, 0, [], zeros32⟩, none, 0⟩) 58 (0, 0)) := by
    have h9 := HROW1.out
    rw [hs0] at h9
    rw [Below.heap_setCell _ _ _ _ (by simp)]; exact h9
  have hbb : Below w.heap.size w (W1.setCell ⟨w.heap.size, 0, none⟩ (.int .i64 (m.f.k % 3))) := (HB0.out.trans (HB1.out.mono (by omega))).setCell (p := ⟨w.heap.size, 0, none⟩) (Nat.le_refl _) _
  have HRL := Lib.hid hrl
  have HR1 := Lib.hid hr1
  have HBB := Lib.hid hbb
  clear hrl hr1 hbb
  go_wp2_with (first
    | (refine wpList_load_is rfl 58 (.tmp 1) rfl w.heap.size rfl 58 m.kind.agg _ HRL.out Try.underlying58 rfl (by rw [HK.out]; exact infoField) ?_)
    | (refine wpList_store_abs rfl 58 (.tmp 2) _ rfl (w.heap.size + 1) m.kind.agg rfl rfl 58 _ HR1.out (by rw [HK.out]; exact infoField) (by rw [HK.out, HZ.out]) (MF.agg_one _) ?_; intro W5 hrow5 hoth5 hb5 hs5; have HROW5 := Lib.hid hrow5; have HB5 := Lib.hid hb5; clear hrow5 hoth5 hb5))
  exact bodyPost_ret (results_cell_row rfl _ _ (w.heap.size + 1) 58 _ (0, 0) _ rfl HROW5.out Try.underlying58 rfl (by rw [HK.out]; exact infoField)) rfl ⟨rfl, HBB.out.trans (HB5.out.mono (by omega))⟩
end Go.Proofs.Ytogcnfhmcpkdcaa
