/-
  Contract of the reference's Add to a line: no room.
-/
import Derived.Test.YtogcnfhmcpkdcaaLine22
namespace Go.Proofs.Ytogcnfhmcpkdcaa
open Go.RowKit
set_option linter.unusedVariables false
set_option linter.unusedSimpArgs false

set_option maxRecDepth 100000 in
set_option maxHeartbeats 1000000 in
theorem r17Add_full (x : PLine) (hg : x.Good) (a : Option Addr) (c : Nat) (ms : List MItem) (t : Int) (ba : Option Addr) (bc : Nat) (b : List UInt8) (w : World) (h : RAt w w.heap.size x a c ms) (hr : rightI (t, b) = true) (hf : fitsB x ((ms.length : Int) + 1) = false) :
    Calls Try.prog 53 #[rv x a ms.length c, .agg #[.int .i64 t, .slice ba b.length bc]] w (RAddTo x a ms ⟨t, ba, b.length, bc, b⟩ w) := by
  have hl := h.len
  have hb0 := hg.b0
  have hb1 := hg.b1
  have hn1 := hg.n1
  have hn4 : (ms.length : Int) ≤ 4096 := by omega
  have hE : x.add (t, b) = (x, 0) := by unfold PLine.add; rw [if_neg (by rw [← hl, hf]; simp)]
  have HF := Lib.hid hf
  have H := Lib.hid h
  have HE := Lib.hid hE
  have HR := Lib.hid hr
  obtain ⟨W1, hW1⟩ : ∃ W1, W1 = ((w.alloc (.cells #[.int .i64 x.base, .int .i64 x.term, .slice a ms.length c] 88)).alloc (.cells #[.int .i64 t, .slice ba b.length bc] 45)).alloc (.cells #[.int .i64 0, .int .i64 0, .slice none 0 0] 88) := ⟨_, rfl⟩
  have HW1 := Lib.hid hW1
  have hbW : Below w.heap.size w W1 := by rw [hW1]; exact (((Below.refl _ w).alloc (Nat.le_refl _) _).alloc (by simp) _).alloc (by simp; omega) _
  have hs1 : W1.heap.size = w.heap.size + 3 := by rw [hW1]; simp
  have hr0 : W1.heap[w.heap.size]? = some (.cells #[.int .i64 x.base, .int .i64 x.term, .slice a ms.length c] 88 (0, 0)) := by
    rw [hW1]
    refine ((((Below.refl _ (w.alloc (.cells #[.int .i64 x.base, .int .i64 x.term, .slice a ms.length c] 88))).alloc (Nat.le_refl _) _).alloc (by simp) _).block _ (by simp)).trans (heap_alloc_new w _)
  have hr2 : W1.heap[w.heap.size + 2]? = some (.cells #[.int .i64 0, .int .i64 0, .slice none 0 0] 88 (0, 0)) := by
    rw [hW1]
    have := heap_alloc_new ((w.alloc (.cells #[.int .i64 x.base, .int .i64 x.term, .slice a ms.length c] 88)).alloc (.cells #[.int .i64 t, .slice ba b.length bc] 45)) (.cells #[.int .i64 0, .int .i64 0, .slice none 0 0] 88)
    simpa using this
  have HBW := Lib.hid hbW
  have HR0 := Lib.hid hr0
  have HR2 := Lib.hid hr2
  clear h hE hr hW1 hbW hr0 hr2 hf hl hn1
  go_enter Try.func53, Try.ntmps53
  go_wp2_with fail
  rw [← HW1.out]
  refine (r17Right t ba bc b _).mono ?_
  rintro e w3 ⟨rfl, hb3⟩
  rw [HR.out]
  have hs3 := hb3.size
  have hd0 := (hb3.block w.heap.size (by omega)).trans HR0.out
  have HD2 := Lib.hid ((hb3.block (w.heap.size + 2) (by omega)).trans HR2.out)
  have d0 : w3.cell? ⟨w.heap.size, 0, none⟩ = some (.int .i64 x.base) := cell_of_row w3 w.heap.size 0 _ _ _ hd0
  have d1 : w3.cell? ⟨w.heap.size, 1, none⟩ = some (.int .i64 x.term) := cell_of_row w3 w.heap.size 1 _ _ _ hd0
  have d2 : w3.cell? ⟨w.heap.size, 2, none⟩ = some (.slice a ms.length c) := cell_of_row w3 w.heap.size 2 _ _ _ hd0
  have HB3 := Lib.hid (HBW.out.trans (hb3.mono (by omega)))
  have HR3 := Lib.hid hd0
  clear hb3 hd0
  go_wp2_with fail
  refine (r17Fits x hb0 hb1 a ms.length c _ _).mono ?_
  rintro e w4 ⟨rfl, hb4⟩
  rw [HF.out]
  have hs4 := hb4.size
  have hd4 := (hb4.block w.heap.size (by omega)).trans HR3.out
  have HD4 := Lib.hid ((hb4.block (w.heap.size + 2) (by omega)).trans HD2.out)
  have HB4 := Lib.hid (HB3.out.trans (hb4.mono (by omega)))
  clear d0 d1 d2 hb4
  have d0 : w4.cell? ⟨w.heap.size, 0, none⟩ = some (.int .i64 x.base) := cell_of_row w4 w.heap.size 0 _ _ _ hd4
  have d1 : w4.cell? ⟨w.heap.size, 1, none⟩ = some (.int .i64 x.term) := cell_of_row w4 w.heap.size 1 _ _ _ hd4
  have d2 : w4.cell? ⟨w.heap.size, 2, none⟩ = some (.slice a ms.length c) := cell_of_row w4 w.heap.size 2 _ _ _ hd4
  clear hd4
  go_wp2_with (refine wpList_store_abs rfl 88 (.tmp 4) (.tmp 18) rfl (w.heap.size + 2) #[.int .i64 x.base, .int .i64 x.term, .slice a ms.length c] rfl rfl 88 _ HD4.out infoRLine rfl (by simp [Value.oneCell']) ?_; intro W5 hrow5 hoth5 hb5 hs5)
  have hb5' := HB4.out.trans (hb5.mono (show w.heap.size ≤ w.heap.size + 2 by omega))
  refine bodyPost_ret (results_row_tmp rfl _ _ (w.heap.size + 2) 88 _ (0, 0) _ rfl hrow5 Try.underlying88 rfl infoRLine) rfl ?_
  unfold RAddTo
  rw [HE.out]
  exact ⟨a, c, ms, rfl, (H.out.below hb5' (Nat.le_refl _)).mono (by omega), hb5', .inl rfl, fun m hm => .inl hm⟩
end Go.Proofs.Ytogcnfhmcpkdcaa
