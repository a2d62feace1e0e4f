/-
  Contract of the reference's Add to a line: what is refused.
-/
import Derived.Test.YtogcnfhmcpkdcaaLine15
import Derived.Test.YtogcnfhmcpkdcaaHeld3
namespace Go.Proofs.Ytogcnfhmcpkdcaa
open Go.RowKit
set_option linter.unusedVariables false
set_option linter.unusedSimpArgs false

/-- what the reference's Add comes to -/
def RAddTo (x : PLine) (a : Option Addr) (ms : List MItem) (mi : MItem) (w : World) (e : Ending) (w' : World) : Prop := ∃ a' c' ms', e = .returned (.tuple #[rv (x.add mi.it).1 a' ms'.length c', .int .i64 (x.add mi.it).2]) ∧ RAt w' w'.heap.size (x.add mi.it).1 a' c' ms' ∧ Below w.heap.size w w' ∧ Fresh w w' a a' ∧ ∀ m ∈ ms', m ∈ ms ∨ m = mi

set_option maxRecDepth 100000 in
set_option maxHeartbeats 1000000 in
theorem r17Add_wrong (x : PLine) (hg : x.Good) (a : Option Addr) (c : Nat) (ms : List MItem) (t : Int) (ba : Option Addr) (bc : Nat) (b : List UInt8) (w : World) (h : RAt w w.heap.size x a c ms) (hr : rightI (t, b) = false) :
    Calls Try.prog 53 #[rv x a ms.length c, .agg #[.int .i64 t, .slice ba b.length bc]] w (RAddTo x a ms ⟨t, ba, b.length, bc, b⟩ w) := by
  have hE : x.add (t, b) = (x, 0) := by unfold PLine.add; rw [if_neg (by rw [hr]; simp)]
  have H := Lib.hid h
  have HE := Lib.hid hE
  have HR := Lib.hid hr
  obtain ⟨W1, hW1⟩ : ∃ W1, W1 = ((w.alloc (.cells #[.int .i64 x.base, .int .i64 x.term, .slice a ms.length c] 88)).alloc (.cells #[.int .i64 t, .slice ba b.length bc] 45)).alloc (.cells #[.int .i64 0, .int .i64 0, .slice none 0 0] 88) := ⟨_, rfl⟩
  have HW1 := Lib.hid hW1
  have hbW : Below w.heap.size w W1 := by rw [hW1]; exact (((Below.refl _ w).alloc (Nat.le_refl _) _).alloc (by simp) _).alloc (by simp; omega) _
  have hs1 : W1.heap.size = w.heap.size + 3 := by rw [hW1]; simp
  have hr0 : W1.heap[w.heap.size]? = some (.cells #[.int .i64 x.base, .int .i64 x.term, .slice a ms.length c] 88 (0, 0)) := by
    rw [hW1]
    refine ((((Below.refl _ (w.alloc (.cells #[.int .i64 x.base, .int .i64 x.term, .slice a ms.length c] 88))).alloc (Nat.le_refl _) _).alloc (by simp) _).block _ (by simp)).trans (heap_alloc_new w _)
  have hr2 : W1.heap[w.heap.size + 2]? = some (.cells #[.int .i64 0, .int .i64 0, .slice none 0 0] 88 (0, 0)) := by
    rw [hW1]
    have := heap_alloc_new ((w.alloc (.cells #[.int .i64 x.base, .int .i64 x.term, .slice a ms.length c] 88)).alloc (.cells #[.int .i64 t, .slice ba b.length bc] 45)) (.cells #[.int .i64 0, .int .i64 0, .slice none 0 0] 88)
    simpa using this
  have HBW := Lib.hid hbW
  have HR0 := Lib.hid hr0
  have HR2 := Lib.hid hr2
  clear h hE hr hW1 hbW hr0 hr2
  go_enter Try.func53, Try.ntmps53
  go_wp2_with fail
  rw [← HW1.out]
  refine (r17Right t ba bc b _).mono ?_
  rintro e w3 ⟨rfl, hb3⟩
  rw [HR.out]
  have hs3 := hb3.size
  have hd0 := (hb3.block w.heap.size (by omega)).trans HR0.out
  have HD2 := Lib.hid ((hb3.block (w.heap.size + 2) (by omega)).trans HR2.out)
  have d0 : w3.cell? ⟨w.heap.size, 0, none⟩ = some (.int .i64 x.base) := cell_of_row w3 w.heap.size 0 _ _ _ hd0
  have d1 : w3.cell? ⟨w.heap.size, 1, none⟩ = some (.int .i64 x.term) := cell_of_row w3 w.heap.size 1 _ _ _ hd0
  have d2 : w3.cell? ⟨w.heap.size, 2, none⟩ = some (.slice a ms.length c) := cell_of_row w3 w.heap.size 2 _ _ _ hd0
  have HB3 := Lib.hid (HBW.out.trans (hb3.mono (by omega)))
  clear hb3 hd0
  go_wp2_with (refine wpList_store_abs rfl 88 (.tmp 4) (.tmp 18) rfl (w.heap.size + 2) #[.int .i64 x.base, .int .i64 x.term, .slice a ms.length c] rfl rfl 88 _ HD2.out infoRLine rfl (by simp [Value.oneCell']) ?_; intro W5 hrow5 hoth5 hb5 hs5)
  have hb5' := HB3.out.trans (hb5.mono (show w.heap.size ≤ w.heap.size + 2 by omega))
  refine bodyPost_ret (results_row_tmp rfl _ _ (w.heap.size + 2) 88 _ (0, 0) _ rfl hrow5 Try.underlying88 rfl infoRLine) rfl ?_
  unfold RAddTo
  rw [HE.out]
  exact ⟨a, c, ms, rfl, (H.out.below hb5' (Nat.le_refl _)).mono (by omega), hb5', .inl rfl, fun m hm => .inl hm⟩
end Go.Proofs.Ytogcnfhmcpkdcaa
