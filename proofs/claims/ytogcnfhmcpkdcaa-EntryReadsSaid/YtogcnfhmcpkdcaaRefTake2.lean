/-
  Contract of the reference's Take, a digest; and all of Take.
-/
import Derived.Test.YtogcnfhmcpkdcaaRefTake
import Derived.Deep.DeepMust
namespace Go.Proofs.Ytogcnfhmcpkdcaa
open Go.RowKit
set_option linter.unusedVariables false

/-- the cells while the digest is filled in -/
def midCells (l : List UInt8) (j : Nat) (lv : Value) : Array Value := (gotCells 2 0 (.slice none 0 0) (l.take j ++ List.replicate (32 - j) 0) 0 lv).toArray

theorem midCells_size (l : List UInt8) (j : Nat) (lv : Value) (hj : j ≤ 32) (hl : 32 ≤ l.length) : (midCells l j lv).size = 37 := by
  simp [midCells, gotCells]; omega

theorem midCells_get (l : List UInt8) (j : Nat) (lv : Value) (hj : j < 32) (hl : 32 ≤ l.length) : (midCells l j lv)[3 + j]? = some (.int .u8 0) := by
  have h1 : (l.take j).length = j := by simp; omega
  simp only [midCells, gotCells, List.getElem?_toArray, List.map_append, List.append_assoc]
  rw [Nat.add_comm 3 j]
  simp only [List.getElem?_cons_succ]
  rw [List.getElem?_append_right (by simp; omega)]
  have h2 : j - (List.map bv (l.take j)).length = 0 := by simp; omega
  rw [h2, show 32 - j = (31 - j) + 1 by omega, List.replicate_succ]
  rfl

theorem midCells_set (l : List UInt8) (j : Nat) (lv : Value) (hj : j < 32) (hl : 32 ≤ l.length) : (midCells l j lv).setIfInBounds (3 + j) (bv (l.getD j 0)) = midCells l (j + 1) lv := by
  have h1 : (l.take j).length = j := by simp; omega
  simp only [midCells, gotCells, List.setIfInBounds_toArray]
  congr 1
  rw [Nat.add_comm 3 j]
  simp only [List.set_cons_succ, List.map_append, List.append_assoc]
  rw [List.set_append_right _ _ (by simp; omega)]
  have h2 : j - (List.map bv (l.take j)).length = 0 := by simp; omega
  rw [h2, show 32 - j = (31 - j) + 1 by omega, List.replicate_succ, take_snocB l j (by omega), show 32 - (j + 1) = 31 - j by omega]
  simp

theorem midCells_one (l : List UInt8) (j : Nat) (a : Option Addr) (n c : Nat) : (midCells l j (.slice a n c)).all (·.oneCell') = true := by
  refine all_oneCell_toArray (fun v hv => ?_)
  simp only [gotCells, List.mem_cons, List.mem_append, List.mem_map] at hv
  rcases hv with rfl | rfl | rfl | ⟨x, _, rfl⟩ | rfl | rfl | h
  · rfl
  · rfl
  · rfl
  · rfl
  · rfl
  · rfl
  · cases h

theorem heap_alloc3_new (w : World) (A B C : Obj) : (((w.alloc A).alloc B).alloc C).heap[w.heap.size + 1 + 1]? = some C := by
  have h := heap_alloc_new ((w.alloc A).alloc B) C
  simpa using h
theorem heap_alloc3_mid (w : World) (A B C : Obj) : (((w.alloc A).alloc B).alloc C).heap[w.heap.size + 1]? = some B := by
  rw [heap_alloc_old]
  · exact heap_alloc2_new w A B
  · simp

set_option maxRecDepth 100000 in
set_option maxHeartbeats 4000000 in
theorem refTake2 (l : List UInt8) (a : Option Addr) (n c : Nat) (F : List Value) (N : Nat) (hF : F.length = 33) (w : World) (B : Nat) (hB : B ≤ w.heap.size) (h : BsAt w B a n c l) :
    Calls Try.prog 39 #[.slice a n c, .agg (.int .i64 2 :: .int .u64 N :: F).toArray] w fun e w' => ∃ gs, e = .returned (.agg gs) ∧ GotIs w' B gs (takeP 2 N l) ∧ Below w.heap.size w w' := by
  have hl := h.hlen
  subst hl
  have H := Lib.hid h
  clear h
  by_cases hs : l.length < 32
  · have t1 : decide ((l.length : Int) < 32) = true := by simp; omega
    go_enter Try.func39, Try.ntmps39
    go_wp2_with (refine wpList_store_row rfl 61 (.tmp 4) _ rfl (w.heap.size + 1) (badCells 2) rfl rfl 61 _ (heap_alloc2_new _ _ _) (by rw [badCells_size]; exact infoGot) (by rw [badCells_size]; rfl) (badCells_one 2) ?_)
    refine bodyPost_ret (results_cell_row rfl _ _ (w.heap.size + 1) 61 (badCells 2) (0, 0) _ rfl (setRow_heap _ _ _ _ _ _ (heap_alloc2_new _ _ _)) Try.underlying61 rfl infoGot) rfl ?_
    exact ⟨_, rfl, by rw [takeP, if_pos rfl, getTake, if_pos hs]; exact take_bad hB⟩
  · have t1 : decide ((l.length : Int) < 32) = false := by simp; omega
    obtain ⟨b, o, rfl, hb, hc⟩ := H.out.hat (by omega)
    have hb := Nat.lt_of_lt_of_le hb hB
    have HC := Lib.hid hc
    clear hc
    obtain ⟨A, C, hrun, hbs⟩ : ∃ A C, (∀ w' : World, (Instr.slice 22 (.slice (some ⟨b, o, none⟩) l.length c) (some (.int .i64 32)) none none).run Try.prog w' = .ok (.slice A (l.length - 32) C) w') ∧ BsAt w B A (l.length - 32) C (l.drop 32) :=
      ⟨_, _, fun w' => run_from Try.underlying22 infoU8s (some ⟨b, o, none⟩) l.length c .i64 32 (by omega) w', H.out.from_ (by omega)⟩
    have HBS := Lib.hid hbs
    clear hbs
    go_enter Try.func39, Try.ntmps39
    go_wp2_with (refine wpList_store_row rfl 61 (.tmp 5) _ rfl (w.heap.size + 1 + 1) (midCells l 0 (.slice A (l.length - 32) C)) rfl rfl 61 _ (heap_alloc3_new _ _ _ _) (by rw [midCells_size _ _ _ (by omega) (by omega)]; exact infoGot) (midCells_size _ _ _ (by omega) (by omega)).symm (midCells_one _ _ _ _ _) ?_)
    refine wp_world (W' := (((w.alloc (.cells (.int .i64 2 :: .int .u64 N :: F).toArray 58)).alloc (.cells (badCells 0) 61)).alloc (.cells (badCells 0) 61)).setRow (w.heap.size + 1 + 1) (midCells l 0 (.slice A (l.length - 32) C))) rfl ?_
    obtain ⟨W1, hW1⟩ : ∃ W1, W1 = ((w.alloc (.cells (.int .i64 2 :: .int .u64 N :: F).toArray 58)).alloc (.cells (badCells 0) 61)).alloc (.cells (badCells 0) 61) := ⟨_, rfl⟩
    rw [← hW1]
    have hm1 : W1.heap[w.heap.size + 1]? = some (.cells (badCells 0) 61 (0, 0)) := by rw [hW1]; exact heap_alloc3_mid _ _ _ _
    have hm2 : W1.heap[w.heap.size + 1 + 1]? = some (.cells (badCells 0) 61 (0, 0)) := by rw [hW1]; exact heap_alloc3_new _ _ _ _
    have hbl : Below w.heap.size w W1 := by rw [hW1]; exact (((Below.refl _ w).alloc (Nat.le_refl _) _).alloc (by simp) _).alloc (by simp; omega) _
    obtain ⟨W0, hW0⟩ : ∃ W0, W0 = W1.setRow (w.heap.size + 1 + 1) (midCells l 0 (.slice A (l.length - 32) C)) := ⟨_, rfl⟩
    rw [← hW0]
    have h0 : W0.heap[w.heap.size + 1]? = some (.cells (badCells 0) 61 (0, 0)) := by rw [hW0, setRow_other _ _ _ _ (by omega)]; exact hm1
    have h1 : W0.heap[w.heap.size + 1 + 1]? = some (.cells (midCells l 0 (.slice A (l.length - 32) C)) 61 (0, 0)) := by rw [hW0]; exact setRow_heap _ _ _ _ _ _ hm2
    have hb0 : Below w.heap.size w W0 := by rw [hW0]; exact hbl.trans (below_setRow _ _ (by omega))
    have HM0 := Lib.hid h0
    have HM1 := Lib.hid h1
    have HB0 := Lib.hid hb0
    clear hW0 hW1 hm1 hm2 hbl h0 h1 hb0
    go_loopw [6] (fun iv wr => ∃ j : Nat, j ≤ 32 ∧ iv = .int .i64 j ∧ wr.heap[w.heap.size + 1]? = some (.cells (badCells 0) 61 (0, 0)) ∧ wr.heap[w.heap.size + 1 + 1]? = some (.cells (midCells l j (.slice A (l.length - 32) C)) 61 (0, 0)) ∧ Below w.heap.size w wr)
      (fun iv _ => 32 - (intOf iv).toNat)
    case atStart => exact ⟨0, by omega, rfl, HM0.out, HM1.out, HB0.out⟩
    case round =>
      obtain ⟨j, hj, rfl, q0, q1, hbl⟩ := hrel
      have HQ0 := Lib.hid q0
      have HQ1 := Lib.hid q1
      have HB := Lib.hid hbl
      by_cases hlt : j < 32
      · obtain ⟨x, hx⟩ : ∃ x, x = l.getD j 0 := ⟨_, rfl⟩
        have hcx : wr.cell? ⟨b, o + j, none⟩ = some (.int .u8 (x.toNat : Int)) := by rw [hx]; exact (hbl.cell (p := ⟨b, o + j, none⟩) hb).trans (HC.out j (by omega))
        have hcy : wr.cell? ⟨w.heap.size + 1 + 1, 3 + j, none⟩ = some (.int .u8 0) := by rw [cell_of_row _ _ _ _ _ _ q1]; exact midCells_get _ _ _ hlt (by omega)
        have hcf : wr.frozen? ⟨w.heap.size + 1 + 1, 3 + j, none⟩ = false := frozen_of_row _ _ _ _ _ q1
        have HX := Lib.hid hx
        have hk0 : (0 : Int) ≤ (j : Int) := by omega
        have hk1 : (j : Int) < (l.length : Int) := by omega
        have hk2 : (j : Int) < 32 := by omega
        clear q0 q1 hbl hx
        go_wp2_with fail
        go_roundw
        case rel =>
          refine ⟨j + 1, by omega, by go_num, ?_, ?_, HB.out.trans ⟨rfl, rfl, rfl, by simp, fun k hk => Below.heap_setCell _ _ _ k (by show k ≠ w.heap.size + 1 + 1; omega)⟩⟩
          · rw [heap_setCell_other _ _ _ _ (by show w.heap.size + 1 ≠ w.heap.size + 1 + 1; omega)]; exact HQ0.out
          · rw [heap_setCell_same _ _ _ _ _ _ HQ1.out, ← midCells_set l j _ hlt (by omega), ← HX.out]
        case measure => simp [intOf]; omega
      · have hj32 : j = 32 := by omega
        subst hj32
        clear q0 q1 hbl
        go_wp2_with (first
          | (refine wpList_load_row rfl 61 _ rfl (w.heap.size + 1 + 1) rfl 61 (midCells l 32 (.slice A (l.length - 32) C)) (0, 0) _ HQ1.out Try.underlying61 rfl (by rw [midCells_size _ _ _ (by omega) (by omega)]; exact infoGot) ?_)
          | (refine wpList_store_row rfl 61 (.tmp 4) _ rfl (w.heap.size + 1) (midCells l 32 (.slice A (l.length - 32) C)) rfl rfl 61 _ HQ0.out (by rw [midCells_size _ _ _ (by omega) (by omega)]; exact infoGot) (midCells_size _ _ _ (by omega) (by omega)).symm (midCells_one _ _ _ _ _) ?_))
        refine bodyPost_ret (results_cell_row rfl _ _ (w.heap.size + 1) 61 (midCells l 32 (.slice A (l.length - 32) C)) (0, 0) _ rfl (setRow_heap _ _ _ _ _ _ HQ0.out) Try.underlying61 rfl (by rw [midCells_size _ _ _ (by omega) (by omega)]; exact infoGot)) rfl ?_
        have hbl : Below w.heap.size wr (wr.setRow (w.heap.size + 1) (midCells l 32 (.slice A (l.length - 32) C))) := below_setRow _ _ (by omega)
        have e1 : (l.drop 32).length = l.length - 32 := by simp
        refine ⟨_, rfl, ?_, HB.out.trans hbl⟩
        rw [takeP, if_pos rfl, getTake, if_neg hs]
        refine ⟨none, 0, A, C, ?_, BsAt.zero _ _ _ _ (by simp [maxLen]) (fun _ => rfl), ?_⟩
        · show _ = (gotCells 2 0 (.slice none 0 0) (l.take 32) 0 (.slice A (l.drop 32).length C)).toArray
          rw [e1]; simp [midCells]
        · show BsAt _ _ A (l.drop 32).length C _
          rw [e1]; exact (HBS.out.below HB.out hB).below hbl hB

theorem refTake (kk : Int) (l : List UInt8) (a : Option Addr) (n c : Nat) (F : List Value) (N : Nat) (hF : F.length = 33) (w : World) (B : Nat) (hB : B ≤ w.heap.size) (h : BsAt w B a n c l) :
    Calls Try.prog 39 #[.slice a n c, .agg (.int .i64 kk :: .int .u64 N :: F).toArray] w fun e w' => ∃ gs, e = .returned (.agg gs) ∧ GotIs w' B gs (takeP kk N l) ∧ Below w.heap.size w w' := by
  by_cases h2 : kk = 2
  · subst h2; exact refTake2 l a n c F N hF w B hB h
  · exact refTakeN kk (by simpa using h2) l a n c F N hF w B hB h
end Go.Proofs.Ytogcnfhmcpkdcaa
