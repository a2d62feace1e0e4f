/-
  Contract of the reference's Add to a line: what is refused.
  Contract of the reference's Add to a line: no room.
  Contract of the reference's Add to a line: the item is added.
  Contracts of the reference's Add (all its ways) and Join to a line.
  The state of the law LinePlays: the program's line and the document's, side by side.
-/
import Derived.Test.YtogcnfhmcpkdcaaLineM6
import Derived.Test.YtogcnfhmcpkdcaaHeld3
import Derived.Test.YtogcnfhmcpkdcaaLineM8
namespace Go.Proofs.Ytogcnfhmcpkdcaa
open Go.RowKit
set_option linter.unusedVariables false
set_option linter.unusedSimpArgs false

/-- what the reference's Add comes to -/
def RAddTo (x : PLine) (a : Option Addr) (ms : List MItem) (mi : MItem) (w : World) (e : Ending) (w' : World) : Prop := ∃ a' c' ms', e = .returned (.tuple #[rv (x.add mi.it).1 a' ms'.length c', .int .i64 (x.add mi.it).2]) ∧ RAt w' w'.heap.size (x.add mi.it).1 a' c' ms' ∧ Below w.heap.size w w' ∧ Fresh w w' a a' ∧ ∀ m ∈ ms', m ∈ ms ∨ m = mi

set_option maxRecDepth 100000 in
set_option maxHeartbeats 1000000 in
theorem r17Add_wrong (x : PLine) (hg : x.Good) (a : Option Addr) (c : Nat) (ms : List MItem) (t : Int) (ba : Option Addr) (bc : Nat) (b : List UInt8) (w : World) (h : RAt w w.heap.size x a c ms) (hr : rightI (t, b) = false) :
    Calls Try.prog 53 #[rv x a ms.length c, .agg #[.int .i64 t, .slice ba b.length bc]] w (RAddTo x a ms ⟨t, ba, b.length, bc, b⟩ w) := by
  have hE : x.add (t, b) = (x, 0) := by unfold PLine.add; rw [if_neg (by rw [hr]; simp)]
  have H := Lib.hid h
  have HE := Lib.hid hE
  have HR := Lib.hid hr
  obtain ⟨W1, hW1⟩ : ∃ W1, W1 = ((w.alloc (.cells #[.int .i64 x.base, .int .i64 x.term, .slice a ms.length c] 88)).alloc (.cells #[.int .i64 t, .slice ba b.length bc] 45)).alloc (.cells #[.int .i64 0, .int .i64 0, .slice none 0 0] 88) := ⟨_, rfl⟩
  have HW1 := Lib.hid hW1
  have hbW : Below w.heap.size w W1 := by rw [hW1]; exact (((Below.refl _ w).alloc (Nat.le_refl _) _).alloc (by simp) _).alloc (by simp; omega) _
  have hs1 : W1.heap.size = w.heap.size + 3 := by rw [hW1]; simp
  have hr0 : W1.heap[w.heap.size]? = some (.cells #[.int .i64 x.base, .int .i64 x.term, .slice a ms.length c] 88 (0, 0)) := by
    rw [hW1]
    refine ((((Below.refl _ (w.alloc (.cells #[.int .i64 x.base, .int .i64 x.term, .slice a ms.length c] 88))).alloc (Nat.le_refl _) _).alloc (by simp) _).block _ (by simp)).trans (heap_alloc_new w _)
  have hr2 : W1.heap[w.heap.size + 2]? = some (.cells #[.int .i64 0, .int .i64 0, .slice none 0 0] 88 (0, 0)) := by
    rw [hW1]
    have := heap_alloc_new ((w.alloc (.cells #[.int .i64 x.base, .int .i64 x.term, .slice a ms.length c] 88)).alloc (.cells #[.int .i64 t, .slice ba b.length bc] 45)) (.cells #[.int .i64 0, .int .i64 0, .slice none 0 0] 88)
    simpa using this
  have HBW := Lib.hid hbW
  have HR0 := Lib.hid hr0
  have HR2 := Lib.hid hr2
  clear h hE hr hW1 hbW hr0 hr2
  go_enter Try.func53, Try.ntmps53
  go_wp2_with fail
  rw [← HW1.out]
  refine (r17Right t ba bc b _).mono ?_
  rintro e w3 ⟨rfl, hb3⟩
  rw [HR.out]
  have hs3 := hb3.size
  have hd0 := (hb3.block w.heap.size (by omega)).trans HR0.out
  have HD2 := Lib.hid ((hb3.block (w.heap.size + 2) (by omega)).trans HR2.out)
  have d0 : w3.cell? ⟨w.heap.size, 0, none⟩ = some (.int .i64 x.base) := cell_of_row w3 w.heap.size 0 _ _ _ hd0
  have d1 : w3.cell? ⟨w.heap.size, 1, none⟩ = some (.int .i64 x.term) := cell_of_row w3 w.heap.size 1 _ _ _ hd0
  have d2 : w3.cell? ⟨w.heap.size, 2, none⟩ = some (.slice a ms.length c) := cell_of_row w3 w.heap.size 2 _ _ _ hd0
  have HB3 := Lib.hid (HBW.out.trans (hb3.mono (by omega)))
  clear hb3 hd0
  go_wp2_with (refine wpList_store_abs rfl 88 (.tmp 4) (.tmp 18) rfl (w.heap.size + 2) #[.int .i64 x.base, .int .i64 x.term, .slice a ms.length c] rfl rfl 88 _ HD2.out infoRLine rfl (by simp [Value.oneCell']) ?_; intro W5 hrow5 hoth5 hb5 hs5)
  have hb5' := HB3.out.trans (hb5.mono (show w.heap.size ≤ w.heap.size + 2 by omega))
  refine bodyPost_ret (results_row_tmp rfl _ _ (w.heap.size + 2) 88 _ (0, 0) _ rfl hrow5 Try.underlying88 rfl infoRLine) rfl ?_
  unfold RAddTo
  rw [HE.out]
  exact ⟨a, c, ms, rfl, (H.out.below hb5' (Nat.le_refl _)).mono (by omega), hb5', .inl rfl, fun m hm => .inl hm⟩
end Go.Proofs.Ytogcnfhmcpkdcaa

namespace Go.Proofs.Ytogcnfhmcpkdcaa
open Go.RowKit
set_option linter.unusedVariables false
set_option linter.unusedSimpArgs false

set_option maxRecDepth 100000 in
set_option maxHeartbeats 1000000 in
theorem r17Add_full (x : PLine) (hg : x.Good) (a : Option Addr) (c : Nat) (ms : List MItem) (t : Int) (ba : Option Addr) (bc : Nat) (b : List UInt8) (w : World) (h : RAt w w.heap.size x a c ms) (hr : rightI (t, b) = true) (hf : fitsB x ((ms.length : Int) + 1) = false) :
    Calls Try.prog 53 #[rv x a ms.length c, .agg #[.int .i64 t, .slice ba b.length bc]] w (RAddTo x a ms ⟨t, ba, b.length, bc, b⟩ w) := by
  have hl := h.len
  have hb0 := hg.b0
  have hb1 := hg.b1
  have hn1 := hg.n1
  have hn4 : (ms.length : Int) ≤ 4096 := by omega
  have hE : x.add (t, b) = (x, 0) := by unfold PLine.add; rw [if_neg (by rw [← hl, hf]; simp)]
  have HF := Lib.hid hf
  have H := Lib.hid h
  have HE := Lib.hid hE
  have HR := Lib.hid hr
  obtain ⟨W1, hW1⟩ : ∃ W1, W1 = ((w.alloc (.cells #[.int .i64 x.base, .int .i64 x.term, .slice a ms.length c] 88)).alloc (.cells #[.int .i64 t, .slice ba b.length bc] 45)).alloc (.cells #[.int .i64 0, .int .i64 0, .slice none 0 0] 88) := ⟨_, rfl⟩
  have HW1 := Lib.hid hW1
  have hbW : Below w.heap.size w W1 := by rw [hW1]; exact (((Below.refl _ w).alloc (Nat.le_refl _) _).alloc (by simp) _).alloc (by simp; omega) _
  have hs1 : W1.heap.size = w.heap.size + 3 := by rw [hW1]; simp
  have hr0 : W1.heap[w.heap.size]? = some (.cells #[.int .i64 x.base, .int .i64 x.term, .slice a ms.length c] 88 (0, 0)) := by
    rw [hW1]
    refine ((((Below.refl _ (w.alloc (.cells #[.int .i64 x.base, .int .i64 x.term, .slice a ms.length c] 88))).alloc (Nat.le_refl _) _).alloc (by simp) _).block _ (by simp)).trans (heap_alloc_new w _)
  have hr2 : W1.heap[w.heap.size + 2]? = some (.cells #[.int .i64 0, .int .i64 0, .slice none 0 0] 88 (0, 0)) := by
    rw [hW1]
    have := heap_alloc_new ((w.alloc (.cells #[.int .i64 x.base, .int .i64 x.term, .slice a ms.length c] 88)).alloc (.cells #[.int .i64 t, .slice ba b.length bc] 45)) (.cells #[.int .i64 0, .int .i64 0, .slice none 0 0] 88)
    simpa using this
  have HBW := Lib.hid hbW
  have HR0 := Lib.hid hr0
  have HR2 := Lib.hid hr2
  clear h hE hr hW1 hbW hr0 hr2 hf hl hn1
  go_enter Try.func53, Try.ntmps53
  go_wp2_with fail
  rw [← HW1.out]
  refine (r17Right t ba bc b _).mono ?_
  rintro e w3 ⟨rfl, hb3⟩
  rw [HR.out]
  have hs3 := hb3.size
  have hd0 := (hb3.block w.heap.size (by omega)).trans HR0.out
  have HD2 := Lib.hid ((hb3.block (w.heap.size + 2) (by omega)).trans HR2.out)
  have d0 : w3.cell? ⟨w.heap.size, 0, none⟩ = some (.int .i64 x.base) := cell_of_row w3 w.heap.size 0 _ _ _ hd0
  have d1 : w3.cell? ⟨w.heap.size, 1, none⟩ = some (.int .i64 x.term) := cell_of_row w3 w.heap.size 1 _ _ _ hd0
  have d2 : w3.cell? ⟨w.heap.size, 2, none⟩ = some (.slice a ms.length c) := cell_of_row w3 w.heap.size 2 _ _ _ hd0
  have HB3 := Lib.hid (HBW.out.trans (hb3.mono (by omega)))
  have HR3 := Lib.hid hd0
  clear hb3 hd0
  go_wp2_with fail
  refine (r17Fits x hb0 hb1 a ms.length c _ _).mono ?_
  rintro e w4 ⟨rfl, hb4⟩
  rw [HF.out]
  have hs4 := hb4.size
  have hd4 := (hb4.block w.heap.size (by omega)).trans HR3.out
  have HD4 := Lib.hid ((hb4.block (w.heap.size + 2) (by omega)).trans HD2.out)
  have HB4 := Lib.hid (HB3.out.trans (hb4.mono (by omega)))
  clear d0 d1 d2 hb4
  have d0 : w4.cell? ⟨w.heap.size, 0, none⟩ = some (.int .i64 x.base) := cell_of_row w4 w.heap.size 0 _ _ _ hd4
  have d1 : w4.cell? ⟨w.heap.size, 1, none⟩ = some (.int .i64 x.term) := cell_of_row w4 w.heap.size 1 _ _ _ hd4
  have d2 : w4.cell? ⟨w.heap.size, 2, none⟩ = some (.slice a ms.length c) := cell_of_row w4 w.heap.size 2 _ _ _ hd4
  clear hd4
  go_wp2_with (refine wpList_store_abs rfl 88 (.tmp 4) (.tmp 18) rfl (w.heap.size + 2) #[.int .i64 x.base, .int .i64 x.term, .slice a ms.length c] rfl rfl 88 _ HD4.out infoRLine rfl (by simp [Value.oneCell']) ?_; intro W5 hrow5 hoth5 hb5 hs5)
  have hb5' := HB4.out.trans (hb5.mono (show w.heap.size ≤ w.heap.size + 2 by omega))
  refine bodyPost_ret (results_row_tmp rfl _ _ (w.heap.size + 2) 88 _ (0, 0) _ rfl hrow5 Try.underlying88 rfl infoRLine) rfl ?_
  unfold RAddTo
  rw [HE.out]
  exact ⟨a, c, ms, rfl, (H.out.below hb5' (Nat.le_refl _)).mono (by omega), hb5', .inl rfl, fun m hm => .inl hm⟩
end Go.Proofs.Ytogcnfhmcpkdcaa

namespace Go.Proofs.Ytogcnfhmcpkdcaa
open Go.RowKit
set_option linter.unusedVariables false
set_option linter.unusedSimpArgs false

theorem sl_grown {w w' : World} {row : Option Nat} {b size n c : Nat} {cs : List Value} (h : SlAt w w.heap.size size (some ⟨b, 0, none⟩) n c cs) (hg : w.grownBy w' row) (hne : some b ≠ row) : SlAt w' w'.heap.size size (some ⟨b, 0, none⟩) n c cs :=
  ⟨h.hlen, h.hle, h.hmax, h.hnil, fun hp => by
    obtain ⟨b', o, e, hb, hc⟩ := h.hat hp
    injection e with e
    injection e with e1 e2 _
    subst e1; subst e2
    exact ⟨b, 0, rfl, Nat.lt_of_lt_of_le hb hg.size, fun i hi => (hg.cell_far ⟨b, 0 + i, none⟩ hb hne).trans (hc i hi)⟩⟩

/-- an own row of items, as items -/
theorem itemsOf {w : World} {base : Nat} {a : Option Addr} {n c : Nat} {cs : List Value} {ms : List MItem} (h : w.ownsRow base 45 2 (.slice a n c) n cs) (hn : ms.length = n) (hc : cs = cellsM ms) (hb : ∀ m ∈ ms, m.Bs w w.heap.size) : ItemsAt w w.heap.size a ms.length c ms := by
  subst hn hc
  obtain ⟨a', c', e, hs⟩ := SlAt.ofOwns h
  injection e with e1 _ e2
  subst e1 e2
  exact ⟨hs, hb⟩

/-- ways that meet: what comes behind them is walked once -/
theorem way7 {A1 A2 A3 A4 A5 A6 A7 : Type} {G : A1 → A2 → A3 → A4 → A5 → A6 → A7 → Prop} {P : Prop} (F : A1 → A2 → A3 → A4 → A5 → A6 → A7 → Prop)
    (main : (∀ x1 x2 x3 x4 x5 x6 x7, F x1 x2 x3 x4 x5 x6 x7 → G x1 x2 x3 x4 x5 x6 x7) → P) (key : ∀ x1 x2 x3 x4 x5 x6 x7, F x1 x2 x3 x4 x5 x6 x7 → G x1 x2 x3 x4 x5 x6 x7) : P := main key

set_option maxRecDepth 100000 in
set_option maxHeartbeats 1000000 in
theorem r17Add_ok (x : PLine) (hg : x.Good) (a : Option Addr) (c : Nat) (ms : List MItem) (t : Int) (ba : Option Addr) (bc : Nat) (b : List UInt8) (w : World) (h : RAt w w.heap.size x a c ms) (hr : rightI (t, b) = true) (hf : fitsB x ((ms.length : Int) + 1) = true) (hbs : BsAt w w.heap.size ba b.length bc b) :
    Calls Try.prog 53 #[rv x a ms.length c, .agg #[.int .i64 t, .slice ba b.length bc]] w (RAddTo x a ms ⟨t, ba, b.length, bc, b⟩ w) := by
  obtain ⟨i0, hi, hz0, hz1, hz2⟩ := info_parts infoItem3
  have hl := h.len
  have hb0 := hg.b0
  have hb1 := hg.b1
  have hn1 := hg.n1
  have hn4 : (ms.length : Int) ≤ 4096 := by omega
  have hE : x.add (t, b) = (⟨x.base, x.term, x.l ++ [(t, b)]⟩, x.last + 1) := by unfold PLine.add; rw [if_pos ⟨hr, by rw [← hl, hf]⟩]
  have HBS := Lib.hid hbs
  have HF := Lib.hid hf
  have H := Lib.hid h
  have HE := Lib.hid hE
  have HR := Lib.hid hr
  obtain ⟨W1, hW1⟩ : ∃ W1, W1 = ((w.alloc (.cells #[.int .i64 x.base, .int .i64 x.term, .slice a ms.length c] 88)).alloc (.cells #[.int .i64 t, .slice ba b.length bc] 45)).alloc (.cells #[.int .i64 0, .int .i64 0, .slice none 0 0] 88) := ⟨_, rfl⟩
  have HW1 := Lib.hid hW1
  have hbW : Below w.heap.size w W1 := by rw [hW1]; exact (((Below.refl _ w).alloc (Nat.le_refl _) _).alloc (by simp) _).alloc (by simp; omega) _
  have hs1 : W1.heap.size = w.heap.size + 3 := by rw [hW1]; simp
  have hr0 : W1.heap[w.heap.size]? = some (.cells #[.int .i64 x.base, .int .i64 x.term, .slice a ms.length c] 88 (0, 0)) := by
    rw [hW1]
    refine ((((Below.refl _ (w.alloc (.cells #[.int .i64 x.base, .int .i64 x.term, .slice a ms.length c] 88))).alloc (Nat.le_refl _) _).alloc (by simp) _).block _ (by simp)).trans (heap_alloc_new w _)
  have hr2 : W1.heap[w.heap.size + 2]? = some (.cells #[.int .i64 0, .int .i64 0, .slice none 0 0] 88 (0, 0)) := by
    rw [hW1]
    have := heap_alloc_new ((w.alloc (.cells #[.int .i64 x.base, .int .i64 x.term, .slice a ms.length c] 88)).alloc (.cells #[.int .i64 t, .slice ba b.length bc] 45)) (.cells #[.int .i64 0, .int .i64 0, .slice none 0 0] 88)
    simpa using this
  have hr1 : W1.heap[w.heap.size + 1]? = some (.cells #[.int .i64 t, .slice ba b.length bc] 45 (0, 0)) := by
    rw [hW1]
    have h9 := heap_alloc_new (w.alloc (.cells #[.int .i64 x.base, .int .i64 x.term, .slice a ms.length c] 88)) (.cells #[.int .i64 t, .slice ba b.length bc] 45)
    refine (((Below.refl _ ((w.alloc (.cells #[.int .i64 x.base, .int .i64 x.term, .slice a ms.length c] 88)).alloc (.cells #[.int .i64 t, .slice ba b.length bc] 45))).alloc (Nat.le_refl _) _).block _ (by simp)).trans (by simpa using h9)
  have HR1 := Lib.hid hr1
  clear hr1
  have HBW := Lib.hid hbW
  have HR0 := Lib.hid hr0
  have HR2 := Lib.hid hr2
  clear h hE hr hW1 hbW hr0 hr2 hf hl hn1
  go_enter Try.func53, Try.ntmps53
  go_wp2_with fail
  rw [← HW1.out]
  refine (r17Right t ba bc b _).mono ?_
  rintro e w3 ⟨rfl, hb3⟩
  rw [HR.out]
  have hs3 := hb3.size
  have hd0 := (hb3.block w.heap.size (by omega)).trans HR0.out
  have HD2 := Lib.hid ((hb3.block (w.heap.size + 2) (by omega)).trans HR2.out)
  have d0 : w3.cell? ⟨w.heap.size, 0, none⟩ = some (.int .i64 x.base) := cell_of_row w3 w.heap.size 0 _ _ _ hd0
  have d1 : w3.cell? ⟨w.heap.size, 1, none⟩ = some (.int .i64 x.term) := cell_of_row w3 w.heap.size 1 _ _ _ hd0
  have d2 : w3.cell? ⟨w.heap.size, 2, none⟩ = some (.slice a ms.length c) := cell_of_row w3 w.heap.size 2 _ _ _ hd0
  have HB3 := Lib.hid (HBW.out.trans (hb3.mono (by omega)))
  have HR3 := Lib.hid hd0
  have HR13 := Lib.hid ((hb3.block (w.heap.size + 1) (by omega)).trans HR1.out)
  clear hb3 hd0
  go_wp2_with fail
  refine (r17Fits x hb0 hb1 a ms.length c _ _).mono ?_
  rintro e w4 ⟨rfl, hb4⟩
  rw [HF.out]
  have hs4 := hb4.size
  have hd4 := (hb4.block w.heap.size (by omega)).trans HR3.out
  have HD4 := Lib.hid ((hb4.block (w.heap.size + 2) (by omega)).trans HD2.out)
  have HB4 := Lib.hid (HB3.out.trans (hb4.mono (by omega)))
  have HR4 := Lib.hid hd4
  have HR14 := Lib.hid ((hb4.block (w.heap.size + 1) (by omega)).trans HR13.out)
  clear d0 d1 d2 hb4
  have d0 : w4.cell? ⟨w.heap.size, 0, none⟩ = some (.int .i64 x.base) := cell_of_row w4 w.heap.size 0 _ _ _ hd4
  have d1 : w4.cell? ⟨w.heap.size, 1, none⟩ = some (.int .i64 x.term) := cell_of_row w4 w.heap.size 1 _ _ _ hd4
  have d2 : w4.cell? ⟨w.heap.size, 2, none⟩ = some (.slice a ms.length c) := cell_of_row w4 w.heap.size 2 _ _ _ hd4
  clear hd4
  have HS4 := Lib.hid (show AddS (w.heap.size + 1) t ba b.length bc w4 from ⟨cell_of_row w4 (w.heap.size + 1) 0 _ _ _ HR14.out, cell_of_row w4 (w.heap.size + 1) 1 _ _ _ HR14.out⟩)
  have hgs : w.heap.size + 1 < w4.heap.size := by omega
  have hg0 : w.heap.size < w4.heap.size := by omega
  have D2 := Lib.hid (show ∀ u, Below w4.heap.size w4 u → u.cell? ⟨w.heap.size, 2, none⟩ = some (.slice a ms.length c) from fun u hb => (hb.cell (p := ⟨w.heap.size, 2, none⟩) hg0).trans d2)
  have IT4 := Lib.hid (show SlAt w4 w4.heap.size 2 a ms.length c (cellsM ms) from ((H.out.its.below HB4.out (Nat.le_refl _)).mono (by omega)).sl)
  go_wp2_with fail
  clear d0 d1 d2
  refine wp_region_any (by kernel_rfl) ?_
  refine wpAny_of_held (S := AddS (w.heap.size + 1) t ba b.length bc) _ _ _ _ ?_
  obtain ⟨X, hX⟩ : ∃ X, X = w4.drew := ⟨_, rfl⟩
  refine (show wpAnyH _ _ _ _ _ _ _ _ w4.drew from ?_)
  rw [← hX]
  have BX := Lib.hid (show Below w4.heap.size w4 X by rw [hX]; exact (Below.refl _ _).drew)
  have qX : w4.heap.size ≤ X.heap.size := BX.out.size
  clear hX
  have hSX := HS4.out.keep BX.out hgs
  refine heldTake 1 20 rfl rfl (by kernel_rfl) (by kernel_rfl) (by kernel_rfl) (fun _ _ _ h => h) hSX (.inl ⟨by rfl, by intro w' hS; obtain ⟨s1, s2⟩ := hS; go_simp; (try rfl)⟩) ?_
  simp only [List.set_cons_zero, List.set_cons_succ]
  refine heldTake 4 23 rfl rfl (by kernel_rfl) (by kernel_rfl) (by kernel_rfl) (fun _ _ _ h => h) hSX (.inl ⟨by rfl, by intro w' hS; obtain ⟨s1, s2⟩ := hS; go_simp; (try rfl)⟩) ?_
  simp only [List.set_cons_zero, List.set_cons_succ]
  clear hSX
  apply way7 (fun (U : World) (n1 n2 : Nat) (a1 : Option Addr) (c1 : Nat) (a2 : Option Addr) (c2 : Nat) => Below w4.heap.size w4 U ∧ U.ownsRow w4.heap.size 45 2 (.slice a2 (ms.length + 1) c2) (ms.length + 1) (cellsM ms ++ [.int .i64 t, .slice ba b.length bc]))
  intro hway
  refine wpAnyH_three (i := 0) (j := 2) (k := 5) (by kernel_rfl) (wpOp_wp rfl (by rfl) ?_) (wpOp_wp rfl (by rfl) ?_) (wpOp_wp rfl (by rfl) ?_)
  · skip
    go_simp
    obtain ⟨U1, hU1⟩ : ∃ z, z = X.alloc (.cells #[] 45) := ⟨_, rfl⟩
    rw [← hU1]
    have AU1 : Below X.heap.size X U1 := by rw [hU1]; exact (Below.refl _ _).alloc (Nat.le_refl _) _
    have sU1 := Lib.hid (show U1.heap.size = X.heap.size + 1 by rw [hU1]; simp)
    have BU1 := Lib.hid (show Below w4.heap.size w4 U1 from BX.out.trans (AU1.mono qX))
    have qU1 : w4.heap.size ≤ U1.heap.size := BU1.out.size
    have EU1 := Lib.hid (show U1.ownsRow w4.heap.size 45 2 (.slice (some ⟨X.heap.size, 0, none⟩) 0 0) 0 [] by rw [hU1]; exact ownsRow_nilT X w4.heap.size 2 qX 45)
    clear hU1 AU1
    refine ⟨HS4.out.keep BU1.out hgs, ?_⟩
    refine wpAnyH_two (i := 2) (j := 5) (by kernel_rfl) (wpOp_wp rfl (by rfl) ?_) (wpOp_wp rfl (by rfl) ?_)
    · skip
      have eU1 := D2.out U1 BU1.out
      go_simp
      clear eU1
      refine ⟨HS4.out.keep BU1.out hgs, ?_⟩
      refine wpAnyH_two (i := 3) (j := 5) (by kernel_rfl) (wpOp_wp rfl (by rfl) ?_) (wpOp_wp rfl (by rfl) ?_)
      · skip
        refine wp_append_sl U1 (.tmp 19) (.tmp 21) 49 rfl w4.heap.size 45 i0 (.agg #[.int .i64 0, .slice none 0 0]) 2 32 Try.underlying49 hi hz0 hz1 hz2 rfl (by decide) (.slice (some ⟨X.heap.size, 0, none⟩) 0 0) 0 [] rfl EU1.out U1.heap.size a ms.length c (cellsM ms) rfl ((IT4.out.below BU1.out (Nat.le_refl _)).mono qU1) (cellsM_one _) (by unfold maxLen; omega) (by omega) qU1 ?_
        intro aU2 cU2 U2 oU2 gU2 _
        simp only [Nat.zero_add, List.nil_append] at oU2 ⊢
        have BU2 := Lib.hid (show Below w4.heap.size w4 U2 from BU1.out.grown gU2 qU1 (fun k hk => (own_lt EU1.out hk).1))
        have qU2 : w4.heap.size ≤ U2.heap.size := BU2.out.size
        have zU2 := gU2.size
        have OU2 := Lib.hid oU2
        clear oU2 gU2
        refine ⟨HS4.out.keep BU2.out hgs, ?_⟩
        refine heldOne 5 (by kernel_rfl) rfl (by rfl) ?_
        go_simp
        obtain ⟨U3, hU3⟩ : ∃ z, z = U2.alloc (.cells #[.int .i64 t, .slice ba b.length bc] 45) := ⟨_, rfl⟩
        rw [← hU3]
        have AU3 : Below U2.heap.size U2 U3 := by rw [hU3]; exact (Below.refl _ _).alloc (Nat.le_refl _) _
        have sU3 := Lib.hid (show U3.heap.size = U2.heap.size + 1 by rw [hU3]; simp)
        have BU3 := Lib.hid (show Below w4.heap.size w4 U3 from BU2.out.trans (AU3.mono qU2))
        have qU3 : w4.heap.size ≤ U3.heap.size := BU3.out.size
        have IU3 := Lib.hid (show SlAt U3 U3.heap.size 2 (some ⟨U2.heap.size, 0, none⟩) 1 1 [.int .i64 t, .slice ba b.length bc] by rw [sU3.out, hU3]; exact slAt_item U2 #[.int .i64 t, .slice ba b.length bc] 45 2 rfl)
        have OU3 := Lib.hid (own_below' OU2.out AU3)
        clear hU3 AU3
        refine ⟨HS4.out.keep BU3.out hgs, ?_⟩
        refine heldOne 6 (by kernel_rfl) rfl (by rfl) ?_
        refine wp_append_sl U3 (.tmp 22) (.tmp 24) 49 rfl w4.heap.size 45 i0 (.agg #[.int .i64 0, .slice none 0 0]) 2 32 Try.underlying49 hi hz0 hz1 hz2 rfl (by decide) (.slice aU2 ms.length cU2) ms.length (cellsM ms) rfl OU3.out U3.heap.size (some ⟨U2.heap.size, 0, none⟩) 1 1 [.int .i64 t, .slice ba b.length bc] rfl IU3.out (by intro u hu; simp at hu; rcases hu with rfl | rfl <;> rfl) (by unfold maxLen; omega) (by omega) qU3 ?_
        intro aU4 cU4 U4 oU4 gU4 _
        have BU4 := Lib.hid (show Below w4.heap.size w4 U4 from BU3.out.grown gU4 qU3 (fun k hk => (own_lt OU3.out hk).1))
        have OU4 := Lib.hid oU4
        clear oU4 gU4
        refine ⟨HS4.out.keep BU4.out hgs, ?_⟩
        generalize U2.heap.size = n1
        generalize X.heap.size = n2
        exact hway U4 n1 n2 aU2 cU2 aU4 cU4 ⟨BU4.out, OU4.out⟩
      · skip
        go_simp
        obtain ⟨U5, hU5⟩ : ∃ z, z = U1.alloc (.cells #[.int .i64 t, .slice ba b.length bc] 45) := ⟨_, rfl⟩
        rw [← hU5]
        have AU5 : Below U1.heap.size U1 U5 := by rw [hU5]; exact (Below.refl _ _).alloc (Nat.le_refl _) _
        have sU5 := Lib.hid (show U5.heap.size = U1.heap.size + 1 by rw [hU5]; simp)
        have BU5 := Lib.hid (show Below w4.heap.size w4 U5 from BU1.out.trans (AU5.mono qU1))
        have qU5 : w4.heap.size ≤ U5.heap.size := BU5.out.size
        have IU5 := Lib.hid (show SlAt U5 U5.heap.size 2 (some ⟨U1.heap.size, 0, none⟩) 1 1 [.int .i64 t, .slice ba b.length bc] by rw [sU5.out, hU5]; exact slAt_item U1 #[.int .i64 t, .slice ba b.length bc] 45 2 rfl)
        have EU5 := Lib.hid (own_below' EU1.out AU5)
        clear hU5 AU5
        refine ⟨HS4.out.keep BU5.out hgs, ?_⟩
        refine heldOne 3 (by kernel_rfl) rfl (by rfl) ?_
        refine wp_append_sl U5 (.tmp 19) (.tmp 21) 49 rfl w4.heap.size 45 i0 (.agg #[.int .i64 0, .slice none 0 0]) 2 32 Try.underlying49 hi hz0 hz1 hz2 rfl (by decide) (.slice (some ⟨X.heap.size, 0, none⟩) 0 0) 0 [] rfl EU5.out U5.heap.size a ms.length c (cellsM ms) rfl ((IT4.out.below BU5.out (Nat.le_refl _)).mono qU5) (cellsM_one _) (by unfold maxLen; omega) (by omega) qU5 ?_
        intro aU6 cU6 U6 oU6 gU6 _
        simp only [Nat.zero_add, List.nil_append] at oU6 ⊢
        have BU6 := Lib.hid (show Below w4.heap.size w4 U6 from BU5.out.grown gU6 qU5 (fun k hk => (own_lt EU5.out hk).1))
        have qU6 : w4.heap.size ≤ U6.heap.size := BU6.out.size
        have zU6 := gU6.size
        have OU6 := Lib.hid oU6
        have IU6 := Lib.hid (sl_grown IU5.out gU6 (fun e9 => by simp [Value.ownBlock] at e9; have := sU1.out; have := sU5.out; omega))
        clear oU6 gU6
        refine ⟨HS4.out.keep BU6.out hgs, ?_⟩
        refine heldOne 6 (by kernel_rfl) rfl (by rfl) ?_
        refine wp_append_sl U6 (.tmp 22) (.tmp 24) 49 rfl w4.heap.size 45 i0 (.agg #[.int .i64 0, .slice none 0 0]) 2 32 Try.underlying49 hi hz0 hz1 hz2 rfl (by decide) (.slice aU6 ms.length cU6) ms.length (cellsM ms) rfl OU6.out U6.heap.size (some ⟨U1.heap.size, 0, none⟩) 1 1 [.int .i64 t, .slice ba b.length bc] rfl IU6.out (by intro u hu; simp at hu; rcases hu with rfl | rfl <;> rfl) (by unfold maxLen; omega) (by omega) qU6 ?_
        intro aU7 cU7 U7 oU7 gU7 _
        have BU7 := Lib.hid (show Below w4.heap.size w4 U7 from BU6.out.grown gU7 qU6 (fun k hk => (own_lt OU6.out hk).1))
        have OU7 := Lib.hid oU7
        clear oU7 gU7
        refine ⟨HS4.out.keep BU7.out hgs, ?_⟩
        generalize U1.heap.size = n1
        generalize X.heap.size = n2
        exact hway U7 n1 n2 aU6 cU6 aU7 cU7 ⟨BU7.out, OU7.out⟩
    · skip
      go_simp
      obtain ⟨U8, hU8⟩ : ∃ z, z = U1.alloc (.cells #[.int .i64 t, .slice ba b.length bc] 45) := ⟨_, rfl⟩
      rw [← hU8]
      have AU8 : Below U1.heap.size U1 U8 := by rw [hU8]; exact (Below.refl _ _).alloc (Nat.le_refl _) _
      have sU8 := Lib.hid (show U8.heap.size = U1.heap.size + 1 by rw [hU8]; simp)
      have BU8 := Lib.hid (show Below w4.heap.size w4 U8 from BU1.out.trans (AU8.mono qU1))
      have qU8 : w4.heap.size ≤ U8.heap.size := BU8.out.size
      have IU8 := Lib.hid (show SlAt U8 U8.heap.size 2 (some ⟨U1.heap.size, 0, none⟩) 1 1 [.int .i64 t, .slice ba b.length bc] by rw [sU8.out, hU8]; exact slAt_item U1 #[.int .i64 t, .slice ba b.length bc] 45 2 rfl)
      have EU8 := Lib.hid (own_below' EU1.out AU8)
      clear hU8 AU8
      refine ⟨HS4.out.keep BU8.out hgs, ?_⟩
      refine heldOne 2 (by kernel_rfl) rfl (by rfl) ?_
      have eU8 := D2.out U8 BU8.out
      go_simp
      clear eU8
      refine ⟨HS4.out.keep BU8.out hgs, ?_⟩
      refine heldOne 3 (by kernel_rfl) rfl (by rfl) ?_
      refine wp_append_sl U8 (.tmp 19) (.tmp 21) 49 rfl w4.heap.size 45 i0 (.agg #[.int .i64 0, .slice none 0 0]) 2 32 Try.underlying49 hi hz0 hz1 hz2 rfl (by decide) (.slice (some ⟨X.heap.size, 0, none⟩) 0 0) 0 [] rfl EU8.out U8.heap.size a ms.length c (cellsM ms) rfl ((IT4.out.below BU8.out (Nat.le_refl _)).mono qU8) (cellsM_one _) (by unfold maxLen; omega) (by omega) qU8 ?_
      intro aU9 cU9 U9 oU9 gU9 _
      simp only [Nat.zero_add, List.nil_append] at oU9 ⊢
      have BU9 := Lib.hid (show Below w4.heap.size w4 U9 from BU8.out.grown gU9 qU8 (fun k hk => (own_lt EU8.out hk).1))
      have qU9 : w4.heap.size ≤ U9.heap.size := BU9.out.size
      have zU9 := gU9.size
      have OU9 := Lib.hid oU9
      have IU9 := Lib.hid (sl_grown IU8.out gU9 (fun e9 => by simp [Value.ownBlock] at e9; have := sU1.out; have := sU8.out; omega))
      clear oU9 gU9
      refine ⟨HS4.out.keep BU9.out hgs, ?_⟩
      refine heldOne 6 (by kernel_rfl) rfl (by rfl) ?_
      refine wp_append_sl U9 (.tmp 22) (.tmp 24) 49 rfl w4.heap.size 45 i0 (.agg #[.int .i64 0, .slice none 0 0]) 2 32 Try.underlying49 hi hz0 hz1 hz2 rfl (by decide) (.slice aU9 ms.length cU9) ms.length (cellsM ms) rfl OU9.out U9.heap.size (some ⟨U1.heap.size, 0, none⟩) 1 1 [.int .i64 t, .slice ba b.length bc] rfl IU9.out (by intro u hu; simp at hu; rcases hu with rfl | rfl <;> rfl) (by unfold maxLen; omega) (by omega) qU9 ?_
      intro aU10 cU10 U10 oU10 gU10 _
      have BU10 := Lib.hid (show Below w4.heap.size w4 U10 from BU9.out.grown gU10 qU9 (fun k hk => (own_lt OU9.out hk).1))
      have OU10 := Lib.hid oU10
      clear oU10 gU10
      refine ⟨HS4.out.keep BU10.out hgs, ?_⟩
      generalize U1.heap.size = n1
      generalize X.heap.size = n2
      exact hway U10 n1 n2 aU9 cU9 aU10 cU10 ⟨BU10.out, OU10.out⟩
  · skip
    have eX := D2.out X BX.out
    go_simp
    clear eX
    refine ⟨HS4.out.keep BX.out hgs, ?_⟩
    refine wpAnyH_two (i := 0) (j := 5) (by kernel_rfl) (wpOp_wp rfl (by rfl) ?_) (wpOp_wp rfl (by rfl) ?_)
    · skip
      go_simp
      obtain ⟨U11, hU11⟩ : ∃ z, z = X.alloc (.cells #[] 45) := ⟨_, rfl⟩
      rw [← hU11]
      have AU11 : Below X.heap.size X U11 := by rw [hU11]; exact (Below.refl _ _).alloc (Nat.le_refl _) _
      have sU11 := Lib.hid (show U11.heap.size = X.heap.size + 1 by rw [hU11]; simp)
      have BU11 := Lib.hid (show Below w4.heap.size w4 U11 from BX.out.trans (AU11.mono qX))
      have qU11 : w4.heap.size ≤ U11.heap.size := BU11.out.size
      have EU11 := Lib.hid (show U11.ownsRow w4.heap.size 45 2 (.slice (some ⟨X.heap.size, 0, none⟩) 0 0) 0 [] by rw [hU11]; exact ownsRow_nilT X w4.heap.size 2 qX 45)
      clear hU11 AU11
      refine ⟨HS4.out.keep BU11.out hgs, ?_⟩
      refine wpAnyH_two (i := 3) (j := 5) (by kernel_rfl) (wpOp_wp rfl (by rfl) ?_) (wpOp_wp rfl (by rfl) ?_)
      · skip
        refine wp_append_sl U11 (.tmp 19) (.tmp 21) 49 rfl w4.heap.size 45 i0 (.agg #[.int .i64 0, .slice none 0 0]) 2 32 Try.underlying49 hi hz0 hz1 hz2 rfl (by decide) (.slice (some ⟨X.heap.size, 0, none⟩) 0 0) 0 [] rfl EU11.out U11.heap.size a ms.length c (cellsM ms) rfl ((IT4.out.below BU11.out (Nat.le_refl _)).mono qU11) (cellsM_one _) (by unfold maxLen; omega) (by omega) qU11 ?_
        intro aU12 cU12 U12 oU12 gU12 _
        simp only [Nat.zero_add, List.nil_append] at oU12 ⊢
        have BU12 := Lib.hid (show Below w4.heap.size w4 U12 from BU11.out.grown gU12 qU11 (fun k hk => (own_lt EU11.out hk).1))
        have qU12 : w4.heap.size ≤ U12.heap.size := BU12.out.size
        have zU12 := gU12.size
        have OU12 := Lib.hid oU12
        clear oU12 gU12
        refine ⟨HS4.out.keep BU12.out hgs, ?_⟩
        refine heldOne 5 (by kernel_rfl) rfl (by rfl) ?_
        go_simp
        obtain ⟨U13, hU13⟩ : ∃ z, z = U12.alloc (.cells #[.int .i64 t, .slice ba b.length bc] 45) := ⟨_, rfl⟩
        rw [← hU13]
        have AU13 : Below U12.heap.size U12 U13 := by rw [hU13]; exact (Below.refl _ _).alloc (Nat.le_refl _) _
        have sU13 := Lib.hid (show U13.heap.size = U12.heap.size + 1 by rw [hU13]; simp)
        have BU13 := Lib.hid (show Below w4.heap.size w4 U13 from BU12.out.trans (AU13.mono qU12))
        have qU13 : w4.heap.size ≤ U13.heap.size := BU13.out.size
        have IU13 := Lib.hid (show SlAt U13 U13.heap.size 2 (some ⟨U12.heap.size, 0, none⟩) 1 1 [.int .i64 t, .slice ba b.length bc] by rw [sU13.out, hU13]; exact slAt_item U12 #[.int .i64 t, .slice ba b.length bc] 45 2 rfl)
        have OU13 := Lib.hid (own_below' OU12.out AU13)
        clear hU13 AU13
        refine ⟨HS4.out.keep BU13.out hgs, ?_⟩
        refine heldOne 6 (by kernel_rfl) rfl (by rfl) ?_
        refine wp_append_sl U13 (.tmp 22) (.tmp 24) 49 rfl w4.heap.size 45 i0 (.agg #[.int .i64 0, .slice none 0 0]) 2 32 Try.underlying49 hi hz0 hz1 hz2 rfl (by decide) (.slice aU12 ms.length cU12) ms.length (cellsM ms) rfl OU13.out U13.heap.size (some ⟨U12.heap.size, 0, none⟩) 1 1 [.int .i64 t, .slice ba b.length bc] rfl IU13.out (by intro u hu; simp at hu; rcases hu with rfl | rfl <;> rfl) (by unfold maxLen; omega) (by omega) qU13 ?_
        intro aU14 cU14 U14 oU14 gU14 _
        have BU14 := Lib.hid (show Below w4.heap.size w4 U14 from BU13.out.grown gU14 qU13 (fun k hk => (own_lt OU13.out hk).1))
        have OU14 := Lib.hid oU14
        clear oU14 gU14
        refine ⟨HS4.out.keep BU14.out hgs, ?_⟩
        generalize U12.heap.size = n1
        generalize X.heap.size = n2
        exact hway U14 n1 n2 aU12 cU12 aU14 cU14 ⟨BU14.out, OU14.out⟩
      · skip
        go_simp
        obtain ⟨U15, hU15⟩ : ∃ z, z = U11.alloc (.cells #[.int .i64 t, .slice ba b.length bc] 45) := ⟨_, rfl⟩
        rw [← hU15]
        have AU15 : Below U11.heap.size U11 U15 := by rw [hU15]; exact (Below.refl _ _).alloc (Nat.le_refl _) _
        have sU15 := Lib.hid (show U15.heap.size = U11.heap.size + 1 by rw [hU15]; simp)
        have BU15 := Lib.hid (show Below w4.heap.size w4 U15 from BU11.out.trans (AU15.mono qU11))
        have qU15 : w4.heap.size ≤ U15.heap.size := BU15.out.size
        have IU15 := Lib.hid (show SlAt U15 U15.heap.size 2 (some ⟨U11.heap.size, 0, none⟩) 1 1 [.int .i64 t, .slice ba b.length bc] by rw [sU15.out, hU15]; exact slAt_item U11 #[.int .i64 t, .slice ba b.length bc] 45 2 rfl)
        have EU15 := Lib.hid (own_below' EU11.out AU15)
        clear hU15 AU15
        refine ⟨HS4.out.keep BU15.out hgs, ?_⟩
        refine heldOne 3 (by kernel_rfl) rfl (by rfl) ?_
        refine wp_append_sl U15 (.tmp 19) (.tmp 21) 49 rfl w4.heap.size 45 i0 (.agg #[.int .i64 0, .slice none 0 0]) 2 32 Try.underlying49 hi hz0 hz1 hz2 rfl (by decide) (.slice (some ⟨X.heap.size, 0, none⟩) 0 0) 0 [] rfl EU15.out U15.heap.size a ms.length c (cellsM ms) rfl ((IT4.out.below BU15.out (Nat.le_refl _)).mono qU15) (cellsM_one _) (by unfold maxLen; omega) (by omega) qU15 ?_
        intro aU16 cU16 U16 oU16 gU16 _
        simp only [Nat.zero_add, List.nil_append] at oU16 ⊢
        have BU16 := Lib.hid (show Below w4.heap.size w4 U16 from BU15.out.grown gU16 qU15 (fun k hk => (own_lt EU15.out hk).1))
        have qU16 : w4.heap.size ≤ U16.heap.size := BU16.out.size
        have zU16 := gU16.size
        have OU16 := Lib.hid oU16
        have IU16 := Lib.hid (sl_grown IU15.out gU16 (fun e9 => by simp [Value.ownBlock] at e9; have := sU11.out; have := sU15.out; omega))
        clear oU16 gU16
        refine ⟨HS4.out.keep BU16.out hgs, ?_⟩
        refine heldOne 6 (by kernel_rfl) rfl (by rfl) ?_
        refine wp_append_sl U16 (.tmp 22) (.tmp 24) 49 rfl w4.heap.size 45 i0 (.agg #[.int .i64 0, .slice none 0 0]) 2 32 Try.underlying49 hi hz0 hz1 hz2 rfl (by decide) (.slice aU16 ms.length cU16) ms.length (cellsM ms) rfl OU16.out U16.heap.size (some ⟨U11.heap.size, 0, none⟩) 1 1 [.int .i64 t, .slice ba b.length bc] rfl IU16.out (by intro u hu; simp at hu; rcases hu with rfl | rfl <;> rfl) (by unfold maxLen; omega) (by omega) qU16 ?_
        intro aU17 cU17 U17 oU17 gU17 _
        have BU17 := Lib.hid (show Below w4.heap.size w4 U17 from BU16.out.grown gU17 qU16 (fun k hk => (own_lt OU16.out hk).1))
        have OU17 := Lib.hid oU17
        clear oU17 gU17
        refine ⟨HS4.out.keep BU17.out hgs, ?_⟩
        generalize U11.heap.size = n1
        generalize X.heap.size = n2
        exact hway U17 n1 n2 aU16 cU16 aU17 cU17 ⟨BU17.out, OU17.out⟩
    · skip
      go_simp
      obtain ⟨U18, hU18⟩ : ∃ z, z = X.alloc (.cells #[.int .i64 t, .slice ba b.length bc] 45) := ⟨_, rfl⟩
      rw [← hU18]
      have AU18 : Below X.heap.size X U18 := by rw [hU18]; exact (Below.refl _ _).alloc (Nat.le_refl _) _
      have sU18 := Lib.hid (show U18.heap.size = X.heap.size + 1 by rw [hU18]; simp)
      have BU18 := Lib.hid (show Below w4.heap.size w4 U18 from BX.out.trans (AU18.mono qX))
      have qU18 : w4.heap.size ≤ U18.heap.size := BU18.out.size
      have IU18 := Lib.hid (show SlAt U18 U18.heap.size 2 (some ⟨X.heap.size, 0, none⟩) 1 1 [.int .i64 t, .slice ba b.length bc] by rw [sU18.out, hU18]; exact slAt_item X #[.int .i64 t, .slice ba b.length bc] 45 2 rfl)
      clear hU18 AU18
      refine ⟨HS4.out.keep BU18.out hgs, ?_⟩
      refine heldOne 0 (by kernel_rfl) rfl (by rfl) ?_
      go_simp
      obtain ⟨U19, hU19⟩ : ∃ z, z = U18.alloc (.cells #[] 45) := ⟨_, rfl⟩
      rw [← hU19]
      have AU19 : Below U18.heap.size U18 U19 := by rw [hU19]; exact (Below.refl _ _).alloc (Nat.le_refl _) _
      have sU19 := Lib.hid (show U19.heap.size = U18.heap.size + 1 by rw [hU19]; simp)
      have BU19 := Lib.hid (show Below w4.heap.size w4 U19 from BU18.out.trans (AU19.mono qU18))
      have qU19 : w4.heap.size ≤ U19.heap.size := BU19.out.size
      have EU19 := Lib.hid (show U19.ownsRow w4.heap.size 45 2 (.slice (some ⟨U18.heap.size, 0, none⟩) 0 0) 0 [] by rw [hU19]; exact ownsRow_nilT U18 w4.heap.size 2 qU18 45)
      have IU19 := Lib.hid ((IU18.out.below AU19 (Nat.le_refl _)).mono AU19.size)
      clear hU19 AU19
      refine ⟨HS4.out.keep BU19.out hgs, ?_⟩
      refine heldOne 3 (by kernel_rfl) rfl (by rfl) ?_
      refine wp_append_sl U19 (.tmp 19) (.tmp 21) 49 rfl w4.heap.size 45 i0 (.agg #[.int .i64 0, .slice none 0 0]) 2 32 Try.underlying49 hi hz0 hz1 hz2 rfl (by decide) (.slice (some ⟨U18.heap.size, 0, none⟩) 0 0) 0 [] rfl EU19.out U19.heap.size a ms.length c (cellsM ms) rfl ((IT4.out.below BU19.out (Nat.le_refl _)).mono qU19) (cellsM_one _) (by unfold maxLen; omega) (by omega) qU19 ?_
      intro aU20 cU20 U20 oU20 gU20 _
      simp only [Nat.zero_add, List.nil_append] at oU20 ⊢
      have BU20 := Lib.hid (show Below w4.heap.size w4 U20 from BU19.out.grown gU20 qU19 (fun k hk => (own_lt EU19.out hk).1))
      have qU20 : w4.heap.size ≤ U20.heap.size := BU20.out.size
      have zU20 := gU20.size
      have OU20 := Lib.hid oU20
      have IU20 := Lib.hid (sl_grown IU19.out gU20 (fun e9 => by simp [Value.ownBlock] at e9; have := sU18.out; have := sU19.out; omega))
      clear oU20 gU20
      refine ⟨HS4.out.keep BU20.out hgs, ?_⟩
      refine heldOne 6 (by kernel_rfl) rfl (by rfl) ?_
      refine wp_append_sl U20 (.tmp 22) (.tmp 24) 49 rfl w4.heap.size 45 i0 (.agg #[.int .i64 0, .slice none 0 0]) 2 32 Try.underlying49 hi hz0 hz1 hz2 rfl (by decide) (.slice aU20 ms.length cU20) ms.length (cellsM ms) rfl OU20.out U20.heap.size (some ⟨X.heap.size, 0, none⟩) 1 1 [.int .i64 t, .slice ba b.length bc] rfl IU20.out (by intro u hu; simp at hu; rcases hu with rfl | rfl <;> rfl) (by unfold maxLen; omega) (by omega) qU20 ?_
      intro aU21 cU21 U21 oU21 gU21 _
      have BU21 := Lib.hid (show Below w4.heap.size w4 U21 from BU20.out.grown gU21 qU20 (fun k hk => (own_lt OU20.out hk).1))
      have OU21 := Lib.hid oU21
      clear oU21 gU21
      refine ⟨HS4.out.keep BU21.out hgs, ?_⟩
      generalize X.heap.size = n1
      generalize U18.heap.size = n2
      exact hway U21 n1 n2 aU20 cU20 aU21 cU21 ⟨BU21.out, OU21.out⟩
  · skip
    go_simp
    obtain ⟨U22, hU22⟩ : ∃ z, z = X.alloc (.cells #[.int .i64 t, .slice ba b.length bc] 45) := ⟨_, rfl⟩
    rw [← hU22]
    have AU22 : Below X.heap.size X U22 := by rw [hU22]; exact (Below.refl _ _).alloc (Nat.le_refl _) _
    have sU22 := Lib.hid (show U22.heap.size = X.heap.size + 1 by rw [hU22]; simp)
    have BU22 := Lib.hid (show Below w4.heap.size w4 U22 from BX.out.trans (AU22.mono qX))
    have qU22 : w4.heap.size ≤ U22.heap.size := BU22.out.size
    have IU22 := Lib.hid (show SlAt U22 U22.heap.size 2 (some ⟨X.heap.size, 0, none⟩) 1 1 [.int .i64 t, .slice ba b.length bc] by rw [sU22.out, hU22]; exact slAt_item X #[.int .i64 t, .slice ba b.length bc] 45 2 rfl)
    clear hU22 AU22
    refine ⟨HS4.out.keep BU22.out hgs, ?_⟩
    refine wpAnyH_two (i := 0) (j := 2) (by kernel_rfl) (wpOp_wp rfl (by rfl) ?_) (wpOp_wp rfl (by rfl) ?_)
    · skip
      go_simp
      obtain ⟨U23, hU23⟩ : ∃ z, z = U22.alloc (.cells #[] 45) := ⟨_, rfl⟩
      rw [← hU23]
      have AU23 : Below U22.heap.size U22 U23 := by rw [hU23]; exact (Below.refl _ _).alloc (Nat.le_refl _) _
      have sU23 := Lib.hid (show U23.heap.size = U22.heap.size + 1 by rw [hU23]; simp)
      have BU23 := Lib.hid (show Below w4.heap.size w4 U23 from BU22.out.trans (AU23.mono qU22))
      have qU23 : w4.heap.size ≤ U23.heap.size := BU23.out.size
      have EU23 := Lib.hid (show U23.ownsRow w4.heap.size 45 2 (.slice (some ⟨U22.heap.size, 0, none⟩) 0 0) 0 [] by rw [hU23]; exact ownsRow_nilT U22 w4.heap.size 2 qU22 45)
      have IU23 := Lib.hid ((IU22.out.below AU23 (Nat.le_refl _)).mono AU23.size)
      clear hU23 AU23
      refine ⟨HS4.out.keep BU23.out hgs, ?_⟩
      refine heldOne 2 (by kernel_rfl) rfl (by rfl) ?_
      have eU23 := D2.out U23 BU23.out
      go_simp
      clear eU23
      refine ⟨HS4.out.keep BU23.out hgs, ?_⟩
      refine heldOne 3 (by kernel_rfl) rfl (by rfl) ?_
      refine wp_append_sl U23 (.tmp 19) (.tmp 21) 49 rfl w4.heap.size 45 i0 (.agg #[.int .i64 0, .slice none 0 0]) 2 32 Try.underlying49 hi hz0 hz1 hz2 rfl (by decide) (.slice (some ⟨U22.heap.size, 0, none⟩) 0 0) 0 [] rfl EU23.out U23.heap.size a ms.length c (cellsM ms) rfl ((IT4.out.below BU23.out (Nat.le_refl _)).mono qU23) (cellsM_one _) (by unfold maxLen; omega) (by omega) qU23 ?_
      intro aU24 cU24 U24 oU24 gU24 _
      simp only [Nat.zero_add, List.nil_append] at oU24 ⊢
      have BU24 := Lib.hid (show Below w4.heap.size w4 U24 from BU23.out.grown gU24 qU23 (fun k hk => (own_lt EU23.out hk).1))
      have qU24 : w4.heap.size ≤ U24.heap.size := BU24.out.size
      have zU24 := gU24.size
      have OU24 := Lib.hid oU24
      have IU24 := Lib.hid (sl_grown IU23.out gU24 (fun e9 => by simp [Value.ownBlock] at e9; have := sU22.out; have := sU23.out; omega))
      clear oU24 gU24
      refine ⟨HS4.out.keep BU24.out hgs, ?_⟩
      refine heldOne 6 (by kernel_rfl) rfl (by rfl) ?_
      refine wp_append_sl U24 (.tmp 22) (.tmp 24) 49 rfl w4.heap.size 45 i0 (.agg #[.int .i64 0, .slice none 0 0]) 2 32 Try.underlying49 hi hz0 hz1 hz2 rfl (by decide) (.slice aU24 ms.length cU24) ms.length (cellsM ms) rfl OU24.out U24.heap.size (some ⟨X.heap.size, 0, none⟩) 1 1 [.int .i64 t, .slice ba b.length bc] rfl IU24.out (by intro u hu; simp at hu; rcases hu with rfl | rfl <;> rfl) (by unfold maxLen; omega) (by omega) qU24 ?_
      intro aU25 cU25 U25 oU25 gU25 _
      have BU25 := Lib.hid (show Below w4.heap.size w4 U25 from BU24.out.grown gU25 qU24 (fun k hk => (own_lt OU24.out hk).1))
      have OU25 := Lib.hid oU25
      clear oU25 gU25
      refine ⟨HS4.out.keep BU25.out hgs, ?_⟩
      generalize X.heap.size = n1
      generalize U22.heap.size = n2
      exact hway U25 n1 n2 aU24 cU24 aU25 cU25 ⟨BU25.out, OU25.out⟩
    · skip
      have eU22 := D2.out U22 BU22.out
      go_simp
      clear eU22
      refine ⟨HS4.out.keep BU22.out hgs, ?_⟩
      refine heldOne 0 (by kernel_rfl) rfl (by rfl) ?_
      go_simp
      obtain ⟨U26, hU26⟩ : ∃ z, z = U22.alloc (.cells #[] 45) := ⟨_, rfl⟩
      rw [← hU26]
      have AU26 : Below U22.heap.size U22 U26 := by rw [hU26]; exact (Below.refl _ _).alloc (Nat.le_refl _) _
      have sU26 := Lib.hid (show U26.heap.size = U22.heap.size + 1 by rw [hU26]; simp)
      have BU26 := Lib.hid (show Below w4.heap.size w4 U26 from BU22.out.trans (AU26.mono qU22))
      have qU26 : w4.heap.size ≤ U26.heap.size := BU26.out.size
      have EU26 := Lib.hid (show U26.ownsRow w4.heap.size 45 2 (.slice (some ⟨U22.heap.size, 0, none⟩) 0 0) 0 [] by rw [hU26]; exact ownsRow_nilT U22 w4.heap.size 2 qU22 45)
      have IU26 := Lib.hid ((IU22.out.below AU26 (Nat.le_refl _)).mono AU26.size)
      clear hU26 AU26
      refine ⟨HS4.out.keep BU26.out hgs, ?_⟩
      refine heldOne 3 (by kernel_rfl) rfl (by rfl) ?_
      refine wp_append_sl U26 (.tmp 19) (.tmp 21) 49 rfl w4.heap.size 45 i0 (.agg #[.int .i64 0, .slice none 0 0]) 2 32 Try.underlying49 hi hz0 hz1 hz2 rfl (by decide) (.slice (some ⟨U22.heap.size, 0, none⟩) 0 0) 0 [] rfl EU26.out U26.heap.size a ms.length c (cellsM ms) rfl ((IT4.out.below BU26.out (Nat.le_refl _)).mono qU26) (cellsM_one _) (by unfold maxLen; omega) (by omega) qU26 ?_
      intro aU27 cU27 U27 oU27 gU27 _
      simp only [Nat.zero_add, List.nil_append] at oU27 ⊢
      have BU27 := Lib.hid (show Below w4.heap.size w4 U27 from BU26.out.grown gU27 qU26 (fun k hk => (own_lt EU26.out hk).1))
      have qU27 : w4.heap.size ≤ U27.heap.size := BU27.out.size
      have zU27 := gU27.size
      have OU27 := Lib.hid oU27
      have IU27 := Lib.hid (sl_grown IU26.out gU27 (fun e9 => by simp [Value.ownBlock] at e9; have := sU22.out; have := sU26.out; omega))
      clear oU27 gU27
      refine ⟨HS4.out.keep BU27.out hgs, ?_⟩
      refine heldOne 6 (by kernel_rfl) rfl (by rfl) ?_
      refine wp_append_sl U27 (.tmp 22) (.tmp 24) 49 rfl w4.heap.size 45 i0 (.agg #[.int .i64 0, .slice none 0 0]) 2 32 Try.underlying49 hi hz0 hz1 hz2 rfl (by decide) (.slice aU27 ms.length cU27) ms.length (cellsM ms) rfl OU27.out U27.heap.size (some ⟨X.heap.size, 0, none⟩) 1 1 [.int .i64 t, .slice ba b.length bc] rfl IU27.out (by intro u hu; simp at hu; rcases hu with rfl | rfl <;> rfl) (by unfold maxLen; omega) (by omega) qU27 ?_
      intro aU28 cU28 U28 oU28 gU28 _
      have BU28 := Lib.hid (show Below w4.heap.size w4 U28 from BU27.out.grown gU28 qU27 (fun k hk => (own_lt OU27.out hk).1))
      have OU28 := Lib.hid oU28
      clear oU28 gU28
      refine ⟨HS4.out.keep BU28.out hgs, ?_⟩
      generalize X.heap.size = n1
      generalize U22.heap.size = n2
      exact hway U28 n1 n2 aU27 cU27 aU28 cU28 ⟨BU28.out, OU28.out⟩
  · intro U n1 n2 a1 c1 a2 c2 hF
    have HB5 := Lib.hid hF.1
    have HO5 := Lib.hid hF.2
    have hsU := hF.1.size
    have hSU := HS4.out.keep HB5.out hgs
    clear hF
    refine heldTake 7 26 rfl rfl (by kernel_rfl) (by kernel_rfl) (by kernel_rfl) (fun _ _ _ h => h) hSU (.inl ⟨by rfl, by intro w' hS; obtain ⟨s1, s2⟩ := hS; go_simp; (try rfl)⟩) ?_
    simp only [List.set_cons_zero, List.set_cons_succ]
    have p2 := D2.out U HB5.out
    have rU : U.heap[w.heap.size]? = some (.cells #[.int .i64 x.base, .int .i64 x.term, .slice a ms.length c] 88 (0, 0)) := (HB5.out.block _ hg0).trans HR4.out
    have fU : U.frozen? ⟨w.heap.size, 2, none⟩ = false := by simp [World.frozen?, rU]
    refine heldOne 8 (by kernel_rfl) rfl (by rfl) ?_
    refine wp_store_cell 49 (.tmp 26) (.tmp 25) rfl w.heap.size 2 (.slice a2 (ms.length + 1) c2) _ rfl rfl rfl infoItems1 p2 fU ?_
    refine ⟨hSU.set (by omega) _, wpAnyH_done (by kernel_rfl) ?_ _⟩
    clear hSU p2
    obtain ⟨V, hV⟩ : ∃ V, V = U.setCell ⟨w.heap.size, 2, none⟩ (.slice a2 (ms.length + 1) c2) := ⟨_, rfl⟩
    have rV : V.heap[w.heap.size]? = some (.cells #[.int .i64 x.base, .int .i64 x.term, .slice a2 (ms.length + 1) c2] 88 (0, 0)) := by
      rw [hV]
      have h9 := heap_setCell_same U w.heap.size 2 _ _ (.slice a2 (ms.length + 1) c2) rU
      simpa using h9
    have oV : ∀ k, k ≠ w.heap.size → V.heap[k]? = U.heap[k]? := fun k hk => by rw [hV]; exact Below.heap_setCell _ _ _ k hk
    have sV : V.heap.size = U.heap.size := by rw [hV]; simp
    have eV : V.os = U.os ∧ V.tape = U.tape ∧ V.output = U.output := by rw [hV]; exact ⟨rfl, rfl, rfl⟩
    have bV : Below w.heap.size U V := ⟨eV.1, eV.2.1, eV.2.2, by omega, fun k hk => oV k (by omega)⟩
    have HBV := Lib.hid (show Below w.heap.size w V from HB4.out.trans ((HB5.out.mono (by omega)).trans bV))
    have HR2V := Lib.hid (show V.heap[w.heap.size + 2]? = some (.cells #[.int .i64 0, .int .i64 0, .slice none 0 0] 88 (0, 0)) from (oV _ (by omega)).trans ((HB5.out.block _ (by omega)).trans HD4.out))
    have HOV := Lib.hid (World.ownsRow.kept HO5.out (w' := V) (row := some w.heap.size) ⟨eV.1, eV.2.1, eV.2.2, by omega, fun k hk hne => oV k (fun e => hne (by rw [e]))⟩ (.inr fun e => by have h9 := (own_lt HO5.out e).1; omega))
    have HRV := Lib.hid rV
    have HE9 := Lib.hid (show PLine.Good ⟨x.base, x.term, x.l ++ [(t, b)]⟩ from by have h9 := hg.add (t, b); rw [HE.out] at h9; exact h9)
    have HLN := Lib.hid (show ms.length + 1 = (PLine.mk x.base x.term (x.l ++ [(t, b)])).l.length by simp [H.out.len])
    have HLA := Lib.hid (show PLine.last ⟨x.base, x.term, x.l ++ [(t, b)]⟩ = x.last + 1 by simp [PLine.last]; omega)
    have hwV : w.heap.size + 3 ≤ V.heap.size := by omega
    have hwU : w4.heap.size ≤ V.heap.size := by omega
    refine (show Exit.then _ _ _ _ (U.setCell ⟨w.heap.size, 2, none⟩ (.slice a2 (ms.length + 1) c2)) from ?_)
    rw [← hV]
    clear hV oV sV eV bV rV rU fU hsU
    go_wp2_with fail
    refine wp_region_any (by kernel_rfl) ?_
    refine wpAny_of_held (S := fun W => W.heap[w.heap.size]? = some (.cells #[.int .i64 x.base, .int .i64 x.term, .slice a2 (ms.length + 1) c2] 88 (0, 0))) _ _ _ _ ?_
    have hS0 : (fun W : World => W.heap[w.heap.size]? = some (.cells #[.int .i64 x.base, .int .i64 x.term, .slice a2 (ms.length + 1) c2] 88 (0, 0))) V.drew := HRV.out
    refine heldTake 0 27 rfl rfl (by kernel_rfl) (by kernel_rfl) (by kernel_rfl) (fun _ _ _ h => h) hS0 (yieldsIf_load_is (by rfl) 88 (.tmp 2) rfl w.heap.size rfl 88 #[.int .i64 x.base, .int .i64 x.term, .slice a2 (ms.length + 1) c2] _ (fun _ h => h) Try.underlying88 rfl infoRLine) ?_
    refine heldTake 1 28 rfl rfl (by kernel_rfl) (by kernel_rfl) (by kernel_rfl) (fun _ _ _ h => h) hS0 (yieldsIf_load_is (by rfl) 88 (.tmp 2) rfl w.heap.size rfl 88 #[.int .i64 x.base, .int .i64 x.term, .slice a2 (ms.length + 1) c2] _ (fun _ h => h) Try.underlying88 rfl infoRLine) ?_
    refine heldOne 2 (by kernel_rfl) rfl (by rfl) ?_
    clear hS0
    go_simp
    refine (r17Last ⟨x.base, x.term, x.l ++ [(t, b)]⟩ HE9.out a2 (ms.length + 1) c2 HLN.out _).mono ?_
    rintro e w6 ⟨rfl, hb6⟩
    have hs6 := hb6.size
    have hd6 : Below V.heap.size V w6 := (show Below V.heap.size V V.drew from (Below.refl _ _).drew).trans hb6
    have rV6 := (hd6.block w.heap.size (by omega)).trans HRV.out
    have HR26 := Lib.hid ((hd6.block (w.heap.size + 2) (by omega)).trans HR2V.out)
    have HB6 := Lib.hid (HBV.out.trans (hd6.mono (by omega)))
    have HO6 := Lib.hid (own_below' HOV.out hd6)
    have hs7 : V.heap.size ≤ w6.heap.size := hd6.size
    refine ⟨rV6, ?_⟩
    clear hb6 hd6
    rw [HLA.out]
    refine heldOne 3 (by kernel_rfl) rfl (by rfl) ?_
    refine wp_store_row 88 (.tmp 4) (.tmp 27) rfl (w.heap.size + 2) #[.int .i64 x.base, .int .i64 x.term, .slice a2 (ms.length + 1) c2] rfl rfl 88 _ HR26.out infoRLine rfl (by simp [Value.oneCell']) ?_
    have hbs7 := below_setRow w6 (cs := #[.int .i64 x.base, .int .i64 x.term, .slice a2 (ms.length + 1) c2]) (g := w.heap.size + 2) (B := w.heap.size) (by omega)
    have hr7 := setRow_heap w6 (w.heap.size + 2) _ #[.int .i64 x.base, .int .i64 x.term, .slice a2 (ms.length + 1) c2] 88 _ HR26.out
    have rV7 : (w6.setRow (w.heap.size + 2) #[.int .i64 x.base, .int .i64 x.term, .slice a2 (ms.length + 1) c2]).heap[w.heap.size]? = _ := (setRow_other _ _ _ _ (by omega)).trans rV6
    have HR7 := Lib.hid hr7
    have HBF := Lib.hid (HB6.out.trans hbs7)
    have HOF := Lib.hid (World.ownsRow.kept HO6.out (row := some (w.heap.size + 2)) (w' := w6.setRow (w.heap.size + 2) #[.int .i64 x.base, .int .i64 x.term, .slice a2 (ms.length + 1) c2]) ⟨rfl, rfl, rfl, by simp, fun k hk hne => setRow_other _ _ _ _ (fun e => hne (by rw [e]))⟩ (.inr fun e => by have h9 := (own_lt HO6.out e).1; omega))
    clear hbs7 hr7 rV6
    refine ⟨rV7, ?_⟩
    refine heldTake 4 5 rfl rfl (by kernel_rfl) (by kernel_rfl) (by kernel_rfl) (fun _ _ _ h => h) rV7 (.inl ⟨by rfl, by intro w' hS; clear hS; go_simp; (try rfl)⟩) ?_
    simp only [List.set_cons_zero, List.set_cons_succ]
    refine wpAnyH_done (by kernel_rfl) ?_ _
    clear rV7
    go_wp2
    refine bodyPost_ret (results_row_tmp rfl _ _ (w.heap.size + 2) 88 _ (0, 0) _ rfl HR7.out Try.underlying88 rfl infoRLine) rfl ?_
    unfold RAddTo
    rw [HE.out]
    refine ⟨a2, c2, ms ++ [⟨t, ba, b.length, bc, b⟩], by simp, ⟨?_, by simp [H.out.eq]⟩, HBF.out, Fresh.own HOF.out (by omega), fun m hm => by simpa using hm⟩
    refine itemsOf HOF.out (ms := ms ++ [⟨t, ba, b.length, bc, b⟩]) (by simp) (by rw [cellsM_append]; rfl) fun m hm => ?_
    simp at hm
    rcases hm with hm | rfl
    · exact ((H.out.its.bs m hm).below HBF.out (Nat.le_refl _)).mono HBF.out.size
    · exact (HBS.out.below HBF.out (Nat.le_refl _)).mono HBF.out.size
end Go.Proofs.Ytogcnfhmcpkdcaa

namespace Go.Proofs.Ytogcnfhmcpkdcaa
open Go.RowKit
set_option linter.unusedVariables false
set_option linter.unusedSimpArgs false

theorem r17Add (x : PLine) (hg : x.Good) (a : Option Addr) (c : Nat) (ms : List MItem) (t : Int) (ba : Option Addr) (bc : Nat) (b : List UInt8) (w : World) (h : RAt w w.heap.size x a c ms) (hbs : BsAt w w.heap.size ba b.length bc b) :
    Calls Try.prog 53 #[rv x a ms.length c, .agg #[.int .i64 t, .slice ba b.length bc]] w (RAddTo x a ms ⟨t, ba, b.length, bc, b⟩ w) := by
  cases hr : rightI (t, b) with
  | false => exact r17Add_wrong x hg a c ms t ba bc b w h hr
  | true =>
    cases hf : fitsB x ((ms.length : Int) + 1) with
    | false => exact r17Add_full x hg a c ms t ba bc b w h hr hf
    | true => exact r17Add_ok x hg a c ms t ba bc b w h hr hf hbs

/-- a struct that lies in a block, and two values more, are handed back -/
theorem results_row_tmp2 {P : Program} {fn : Func} {p u v : Tmp} {ty : TypeId} (h : fn.results = #[.cell p ty, .tmp u, .tmp v]) (tmps : Array Value) (w : World) (g : Nat) (t : TypeId) (cs : Array Value) (fr : Nat × Nat) (d : TypeDesc)
    (hp : tmps.getD p undef = .pointer (some ⟨g, 0, none⟩)) (hg : w.heap[g]? = some (.cells cs t fr)) (hu : P.underlying ty = some d) (hd : (match d with | .struct _ | .array _ _ => true | _ => false) = true) (hi : (P.info? ty).map (·.size) = some cs.size) :
    (results fn tmps).run P w = .ok (.tuple #[.agg cs, tmps.getD u undef, tmps.getD v undef]) w := by
  have hp' : tmps[p]?.getD undef = .pointer (some ⟨g, 0, none⟩) := by simpa using hp
  simp [results, h, hp', asAddr, run_loadVar_row w g t ty cs fr d hg hu (by cases d <;> simp_all) hi]

/-- what the reference's Join comes to -/
def RJoinTo (E : PLine × Int × Bool) (a : Option Addr) (ms js : List MItem) (w : World) (e : Ending) (w' : World) : Prop := ∃ a' c' ms', e = .returned (.tuple #[rv E.1 a' ms'.length c', .int .i64 E.2.1, .bool E.2.2]) ∧ RAt w' w'.heap.size E.1 a' c' ms' ∧ Below w.heap.size w w' ∧ Fresh w w' a a' ∧ ∀ m ∈ ms', m ∈ ms ∨ m ∈ js

/-- the boxes of Join: the line, and the line that is told -/
structure JB (w : World) (x : PLine) (a : Option Addr) (n c : Nat) (W : World) : Prop where
  bel : Below w.heap.size w W
  sz : w.heap.size + 2 ≤ W.heap.size
  r0 : W.heap[w.heap.size]? = some (.cells #[.int .i64 x.base, .int .i64 x.term, .slice a n c] 88 (0, 0))
  r1 : W.heap[w.heap.size + 1]? = some (.cells #[.int .i64 0, .int .i64 0, .slice none 0 0] 88 (0, 0))
theorem JB.next {w : World} {x : PLine} {a : Option Addr} {n c : Nat} {W W' : World} (h : JB w x a n c W) (hb : Below W.heap.size W W') : JB w x a n c W' := by
  have hs := h.sz
  have hs' := hb.size
  exact ⟨h.bel.trans (hb.mono h.bel.size), by omega, (hb.block _ (by omega)).trans h.r0, (hb.block _ (by omega)).trans h.r1⟩
theorem JB.cells {w : World} {x : PLine} {a : Option Addr} {n c : Nat} {W : World} (h : JB w x a n c W) : W.cell? ⟨w.heap.size, 0, none⟩ = some (.int .i64 x.base) ∧ W.cell? ⟨w.heap.size, 1, none⟩ = some (.int .i64 x.term) ∧ W.cell? ⟨w.heap.size, 2, none⟩ = some (.slice a n c) :=
  ⟨cell_of_row W w.heap.size 0 _ _ _ h.r0, cell_of_row W w.heap.size 1 _ _ _ h.r0, cell_of_row W w.heap.size 2 _ _ _ h.r0⟩
/-- told as it was -/
theorem JB.same {w : World} {x : PLine} {a : Option Addr} {c : Nat} {ms : List MItem} {W W5 : World} (hj : JB w x a ms.length c W) (h : RAt w w.heap.size x a c ms) (hb : Below (w.heap.size + 1) W W5) (js : List MItem) (E : PLine × Int × Bool) (i : Int) (o : Bool) (hE : E = (x, i, o)) :
    RJoinTo E a ms js w (.returned (.tuple #[.agg #[.int .i64 x.base, .int .i64 x.term, .slice a ms.length c], .int .i64 i, .bool o])) W5 := by
  subst hE
  have hb' := hj.bel.trans (hb.mono (show w.heap.size ≤ w.heap.size + 1 by omega))
  exact ⟨a, c, ms, rfl, (h.below hb' (Nat.le_refl _)).mono hb'.size, hb', .inl rfl, fun m hm => .inl hm⟩

/-- what Join's drawn regions read -/
structure RJS (g : Nat) (x : PLine) (a : Option Addr) (n c : Nat) (b q : Nat) (t : Int) (W : World) : Prop where
  r0 : W.heap[g]? = some (.cells #[.int .i64 x.base, .int .i64 x.term, .slice a n c] 88 (0, 0))
  g0 : W.cell? ⟨g, 0, none⟩ = some (.int .i64 x.base)
  g2 : W.cell? ⟨g, 2, none⟩ = some (.slice a n c)
  k0 : W.cell? ⟨b, q, none⟩ = some (.int .i64 t)
theorem RJS.keep {g : Nat} {x : PLine} {a : Option Addr} {n c b q : Nat} {t : Int} {W W' : World} (h : RJS g x a n c b q t W) {N : Nat} (hb : Below N W W') (h1 : g < N) (h2 : b < N) : RJS g x a n c b q t W' :=
  ⟨(hb.block _ h1).trans h.r0, (hb.cell (p := ⟨g, _, none⟩) h1).trans h.g0, (hb.cell (p := ⟨g, _, none⟩) h1).trans h.g2, (hb.cell (p := ⟨b, _, none⟩) h2).trans h.k0⟩

theorem anyBad_take_succ {js : List MItem} {k : Nat} {m : MItem} (hm : js[k]? = some m) (h : anyBad (js.take k) = false) (hr : rightI m.it = true) : anyBad (js.take (k + 1)) = false := by
  have hl : k < js.length := (List.getElem?_eq_some_iff.1 hm).1
  have e : js[k] = m := by simpa [List.getElem?_eq_getElem hl] using hm
  rw [List.take_succ_eq_append_getElem hl, e]
  unfold anyBad at h ⊢
  rw [List.any_append, h]
  simp [hr]
theorem anyBad_mem {js : List MItem} {m : MItem} (hm : m ∈ js) (hr : rightI m.it = false) : anyBad js = true := by
  unfold anyBad
  exact List.any_eq_true.2 ⟨m, hm, by simp [hr]⟩

set_option maxRecDepth 100000 in
set_option maxHeartbeats 2000000 in
theorem r17Join (x : PLine) (hg : x.Good) (a : Option Addr) (c : Nat) (ms : List MItem) (prev term : Int) (js : List MItem) (ja : Option Addr) (jc : Nat) (w : World) (h : RAt w w.heap.size x a c ms) (hj : ItemsAt w w.heap.size ja js.length jc js) (hjn : js.length ≤ 100000) :
    Calls Try.prog 54 #[rv x a ms.length c, .int .i64 prev, .int .i64 term, .slice ja js.length jc] w (RJoinTo (x.join prev term (js.map MItem.it)) a ms js w) := by
  obtain ⟨i0, hi, hz0, hz1, hz2⟩ := info_parts infoItem3
  have hl := h.len
  have hb0 := hg.b0
  have hb1 := hg.b1
  have h1 := hg.n1
  have h2 := hg.n2
  have hn4 : (ms.length : Int) ≤ 4096 := by omega
  have H := Lib.hid h
  have HJ := Lib.hid hj
  have hlastd : x.last = x.base + (x.l.length : Int) := rfl
  obtain ⟨W1, hW1⟩ : ∃ W1, W1 = (w.alloc (.cells #[.int .i64 x.base, .int .i64 x.term, .slice a ms.length c] 88)).alloc (.cells #[.int .i64 0, .int .i64 0, .slice none 0 0] 88) := ⟨_, rfl⟩
  have HW1 := Lib.hid hW1
  have HJ1 := Lib.hid (show JB w x a ms.length c W1 from by
    rw [hW1]
    refine ⟨((Below.refl _ w).alloc (Nat.le_refl _) _).alloc (by simp) _, by simp, (((Below.refl _ (w.alloc (.cells #[.int .i64 x.base, .int .i64 x.term, .slice a ms.length c] 88))).alloc (Nat.le_refl _) _).block _ (by simp)).trans (heap_alloc_new w _), ?_⟩
    have h9 := heap_alloc_new (w.alloc (.cells #[.int .i64 x.base, .int .i64 x.term, .slice a ms.length c] 88)) (.cells #[.int .i64 0, .int .i64 0, .slice none 0 0] 88)
    simpa using h9)
  clear hW1
  obtain ⟨E, hE⟩ : ∃ E, E = x.join prev term (js.map MItem.it) := ⟨_, rfl⟩
  rw [← hE]
  obtain ⟨L, hL⟩ : ∃ L, x.last = L := ⟨_, rfl⟩
  have HL := Lib.hid hL
  by_cases hp0 : prev < 0
  · have hE2 : E = (x, 0, false) := by rw [hE, PLine.join, if_pos (.inl hp0)]
    have HE2 := Lib.hid hE2
    have t1 : decide (prev < 0) = true := by simpa using hp0
    clear hE h hj hl h1 h2 hlastd hE2 hL
    go_enter Try.func54, Try.ntmps54
    go_wp2_with fail
    have hbF := ((Below.refl _ w).alloc (Nat.le_refl w.heap.size) (.cells #[.int .i64 x.base, .int .i64 x.term, .slice a ms.length c] 88)).alloc (by simp) (.cells #[.int .i64 x.base, .int .i64 x.term, .slice a ms.length c] 88)
    have hrF : ((w.alloc (.cells #[.int .i64 x.base, .int .i64 x.term, .slice a ms.length c] 88)).alloc (.cells #[.int .i64 x.base, .int .i64 x.term, .slice a ms.length c] 88)).heap[w.heap.size + 1]? = some (.cells #[.int .i64 x.base, .int .i64 x.term, .slice a ms.length c] 88 (0, 0)) := by
      have h9 := heap_alloc_new (w.alloc (.cells #[.int .i64 x.base, .int .i64 x.term, .slice a ms.length c] 88)) (.cells #[.int .i64 x.base, .int .i64 x.term, .slice a ms.length c] 88)
      simpa using h9
    refine bodyPost_ret (results_row_tmp2 rfl _ _ (w.heap.size + 1) 88 _ (0, 0) _ rfl hrF Try.underlying88 rfl infoRLine) rfl ?_
    unfold RJoinTo
    rw [HE2.out]
    exact ⟨a, c, ms, rfl, (H.out.below hbF (Nat.le_refl _)).mono hbF.size, hbF, .inl rfl, fun m hm => .inl hm⟩
  · have t1 : decide (prev < 0) = false := by simpa using hp0
    by_cases hlp : L < prev
    · have t2 : decide (L < prev) = true := by simpa using hlp
      have hE2 : E = (x, 0, false) := by rw [hE, PLine.join, if_pos (.inr (.inl (by rw [hL]; exact hlp)))]
      have HE2 := Lib.hid hE2
      clear hE h hj hl h1 h2 hlastd hE2 hL
      have HLEN := Lib.hid H.out.len
      go_enter Try.func54, Try.ntmps54
      go_wp2_with fail
      rw [← HW1.out]
      obtain ⟨d0, d1, d2⟩ := HJ1.out.cells
      refine (r17Last x hg a ms.length c HLEN.out _).mono ?_
      rintro e w2 ⟨rfl, hb2⟩
      rw [HL.out]
      have HJ2 := Lib.hid (HJ1.out.next hb2)
      clear hb2 d0 d1 d2
      obtain ⟨d0, d1, d2⟩ := HJ2.out.cells
      (try (obtain ⟨d0, d1, d2⟩ := HJ2.out.cells))
      go_wp2_with (refine wpList_store_abs rfl 88 (.tmp 8) (.tmp 36) rfl (w.heap.size + 1) #[.int .i64 x.base, .int .i64 x.term, .slice a ms.length c] rfl rfl 88 _ HJ2.out.r1 infoRLine rfl (by simp [Value.oneCell']) ?_; intro W5 hrow5 hoth5 hb5 hs5)
      refine bodyPost_ret (results_row_tmp2 rfl _ _ (w.heap.size + 1) 88 _ (0, 0) _ rfl hrow5 Try.underlying88 rfl infoRLine) rfl ?_
      exact HJ2.out.same H.out hb5 js E 0 false HE2.out
    · have t2 : decide (L < prev) = false := by simp; omega
      by_cases hbp : x.base ≤ prev
      · have t3 : decide (x.base ≤ prev) = true := by simpa using hbp
        obtain ⟨T, hT⟩ : ∃ T, x.tm prev = T := ⟨_, rfl⟩
        have HT := Lib.hid hT
        by_cases htm : T = term
        · skip
          have HEB := Lib.hid (show anyBad js = true → E = (x, 0, false) from fun h9 => by
            rw [hE, PLine.join, if_pos (.inr (.inr (by rw [anyBad_map]; exact h9)))])
          have HE3 := Lib.hid (show anyBad js = false → E = match x.diff (prev + 1) (js.map MItem.it) with
              | none => (x, 0, true)
              | some (i, r) => if fitsB x (i - x.base - 1 + r.length) = true then (⟨x.base, x.term, x.l.take (i - x.base - 1).toNat ++ r⟩, i, true) else (x, 0, false) from fun h9 => by
            rw [hE, PLine.join, if_neg (by rw [anyBad_map, h9, hL]; simp; omega), if_neg (fun h10 => by first | exact hbp h10.1 | exact h10.2 (hT.trans htm))]; rfl)
          have t4 : (T != term) = false := by simpa using htm
          have HLB := Lib.hid (show L = x.base + (ms.length : Int) by omega)
          have hLm : L ≤ 1099511627776 := by omega
          have hpl : prev ≤ L := by omega
          have hp1 : 0 ≤ prev := by omega
          have hLb0 : x.base ≤ L := by omega
          clear hE h hj hl h1 h2 hlastd hL hlp hp0
          have HLEN := Lib.hid H.out.len
          clear hT htm
          go_enter Try.func54, Try.ntmps54
          go_wp2_with fail
          rw [← HW1.out]
          obtain ⟨d0, d1, d2⟩ := HJ1.out.cells
          refine (r17Last x hg a ms.length c HLEN.out _).mono ?_
          rintro e w2 ⟨rfl, hb2⟩
          rw [HL.out]
          have HJ2 := Lib.hid (HJ1.out.next hb2)
          clear hb2 d0 d1 d2
          obtain ⟨d0, d1, d2⟩ := HJ2.out.cells
          go_wp2_with fail
          refine (r17At x hg a c ms prev _ ((H.out.below HJ2.out.bel (Nat.le_refl _)).mono HJ2.out.bel.size)).mono ?_
          rintro e w3 ⟨rfl, hb3⟩
          rw [HT.out]
          have HJ3 := Lib.hid (HJ2.out.next hb3)
          clear hb3 d0 d1 d2
          obtain ⟨d0, d1, d2⟩ := HJ3.out.cells
          go_wp2_with fail
          go_loopw [11] (fun kv wr => ∃ k : Nat, kv = .int .i64 k ∧ k ≤ js.length ∧ anyBad (js.take k) = false ∧ JB w x a ms.length c wr) (fun kv _ => js.length - (intOf kv).toNat)
          case atStart => exact ⟨0, rfl, by omega, rfl, HJ3.out⟩
          case round =>
            obtain ⟨k, rfl, hk, hak, hjk⟩ := hrel
            have HAK := Lib.hid hak
            have HJK := Lib.hid hjk
            clear hak hjk d0 d1 d2
            obtain ⟨d0, d1, d2⟩ := HJK.out.cells
            by_cases hkl : k < js.length
            · obtain ⟨mi, hmi⟩ : ∃ mi, js[k]? = some mi := ⟨_, List.getElem?_eq_getElem hkl⟩
              have hbsk := (HJ.out.bs mi (List.mem_of_getElem? hmi))
              have hmn : mi.n = mi.b.length := hbsk.hlen.symm
              have HMI := Lib.hid hmi
              obtain ⟨b, o, rfl, hb, k0, k1⟩ := HJ.out.cell hmi
              rw [hmn] at k1
              have c0 : wr.cell? ⟨b, o + k * 2, none⟩ = some (.int .i64 mi.t) := (HJK.out.bel.cell (p := ⟨b, o + k * 2, none⟩) hb).trans k0
              have c1 : wr.cell? ⟨b, o + k * 2 + 1, none⟩ = some (.slice mi.a mi.b.length mi.c) := (HJK.out.bel.cell (p := ⟨b, o + (k * 2 + 1), none⟩) hb).trans k1
              obtain ⟨R, hR⟩ : ∃ R, rightI (mi.t, mi.b) = R := ⟨_, rfl⟩
              have HR := Lib.hid hR
              have tk : decide ((k : Int) < (js.length : Int)) = true := by simpa using hkl
              have hk0 : (0 : Int) ≤ (k : Int) := by omega
              have hk1 : (k : Int) < (js.length : Int) := by omega
              clear k0 k1 hmi hbsk hmn hR
              cases R with
              | false =>
                have HE2 := Lib.hid (HEB.out (anyBad_mem (List.mem_of_getElem? HMI.out) HR.out))
                go_wp2_with fail
                refine (r17Right mi.t mi.a mi.c mi.b _).mono ?_
                rintro e w6 ⟨rfl, hb6⟩
                rw [HR.out]
                have HJ6 := Lib.hid (HJK.out.next hb6)
                clear hb6 d0 d1 d2 c0 c1
                obtain ⟨d0, d1, d2⟩ := HJ6.out.cells
                go_wp2_with (refine wpList_store_abs rfl 88 (.tmp 8) (.tmp 49) rfl (w.heap.size + 1) #[.int .i64 x.base, .int .i64 x.term, .slice a ms.length c] rfl rfl 88 _ HJ6.out.r1 infoRLine rfl (by simp [Value.oneCell']) ?_; intro W5 hrow5 hoth5 hb5 hs5)
                (try rw [Exit.noGoto_ret])
                refine bodyPost_ret (results_row_tmp2 rfl _ _ (w.heap.size + 1) 88 _ (0, 0) _ rfl hrow5 Try.underlying88 rfl infoRLine) rfl ?_
                exact HJ6.out.same H.out hb5 js E 0 false HE2.out
              | true =>
                have HAN := Lib.hid (anyBad_take_succ HMI.out HAK.out HR.out)
                go_wp2_with fail
                refine (r17Right mi.t mi.a mi.c mi.b _).mono ?_
                rintro e w6 ⟨rfl, hb6⟩
                rw [HR.out]
                have HJ6 := Lib.hid (HJK.out.next hb6)
                clear hb6 d0 d1 d2 c0 c1
                go_wp2
                go_roundw
                case rel => exact ⟨k + 1, by go_num, by omega, HAN.out, HJ6.out⟩
                case measure => simp [intOf]; omega
            · have hkn : k = js.length := by omega
              subst hkn
              have HNB := Lib.hid (show anyBad js = false by have h9 := HAK.out; rwa [List.take_length] at h9)
              have HE4 := Lib.hid (HE3.out HNB.out)
              clear hkl hk
              clear d0 d1 d2
              go_wp2_with fail
              obtain ⟨w7, rfl⟩ : ∃ w7 : World, w7 = wr := ⟨_, rfl⟩
              go_loopw [12] (fun kv wr => ∃ k : Nat, kv = .int .i64 k ∧ k ≤ js.length ∧ prev + (k : Int) ≤ L ∧ x.diff (prev + 1) (js.map MItem.it) = x.diff (prev + 1 + (k : Int)) ((js.drop k).map MItem.it) ∧ JB w x a ms.length c wr) (fun kv _ => js.length - (intOf kv).toNat)
              case atStart => exact ⟨0, rfl, by omega, by simpa using hpl, by simp, HJK.out⟩
              case round =>
                obtain ⟨k, rfl, hk, hub, hdf, hjk⟩ := hrel
                have HDF := Lib.hid hdf
                have HJK := Lib.hid hjk
                clear hdf hjk
                by_cases hkl : k < js.length
                · obtain ⟨mi, hmi⟩ : ∃ mi, js[k]? = some mi := ⟨_, List.getElem?_eq_getElem hkl⟩
                  have hmem : mi ∈ js := List.mem_of_getElem? hmi
                  have hmt : 0 ≤ mi.t := ((rightI_iff _).1 (anyBad_get HNB.out hmem)).1
                  have HMI := Lib.hid hmi
                  obtain ⟨b, o, hja, hb, k0, k1⟩ := HJ.out.cell hmi
                  have c0 : wr.cell? ⟨b, o + k * 2, none⟩ = some (.int .i64 mi.t) := (HJK.out.bel.cell (p := ⟨b, o + k * 2, none⟩) hb).trans k0
                  have HS := Lib.hid (show RJS w.heap.size x a ms.length c b (o + k * 2) mi.t wr from ⟨HJK.out.r0, HJK.out.cells.1, HJK.out.cells.2.2, c0⟩)
                  have tk : decide ((k : Int) < (js.length : Int)) = true := by simpa using hkl
                  have hk0 : (0 : Int) ≤ (k : Int) := by omega
                  have hk1 : (k : Int) < (js.length : Int) := by omega
                  have HSTEP := Lib.hid (show (prev + 1 + (k : Int) ≤ x.base ∨ x.tm (prev + 1 + (k : Int)) = mi.t) → prev + ((k + 1 : Nat) : Int) ≤ L ∧ x.diff (prev + 1) (js.map MItem.it) = x.diff (prev + 1 + ((k + 1 : Nat) : Int)) ((js.drop (k + 1)).map MItem.it) from fun h9 => by
                    constructor
                    · rcases h9 with h9 | h9
                      · omega
                      · have h10 := (hg.tm_ge (prev + 1 + (k : Int))).1 (by omega)
                        rw [HL.out] at h10
                        omega
                    · have e9 : js[k] = mi := by have h10 := HMI.out; rw [List.getElem?_eq_getElem hkl] at h10; injection h10
                      rw [HDF.out, List.drop_eq_getElem_cons hkl, e9, List.map_cons, PLine.diff_step (by simp) (by simpa using h9)]
                      rw [show prev + 1 + (k : Int) + 1 = prev + 1 + ((k + 1 : Nat) : Int) by omega]
                      rfl)
                  subst hja
                  have hwr := HJK.out.sz
                  clear k0 k1 hmi hmem c0
                  by_cases hA : prev + 1 + (k : Int) ≤ x.base
                  · have tA : decide (prev + 1 + (k : Int) ≤ x.base) = true := by simpa using hA
                    have HNX := Lib.hid (HSTEP.out (.inl hA))
                    clear hA
                    go_wp2_with fail
                    refine wp_region_any (by kernel_rfl) ?_
                    refine wpAny_of_held (S := RJS w.heap.size x a ms.length c b (o + k * 2) mi.t) _ _ _ _ ?_
                    have hS0 : RJS w.heap.size x a ms.length c b (o + k * 2) mi.t wr.drew := HS.out.keep (N := wr.heap.size) (Below.refl _ _).drew (by omega) (by omega)
                    refine heldTake 0 60 rfl rfl (by kernel_rfl) (by kernel_rfl) (by kernel_rfl) (fun _ _ _ h => h) hS0 (.inl ⟨by rfl, by intro w' hS; obtain ⟨s1, s2, s3, s4⟩ := hS; go_simp; (try rfl)⟩) ?_
                    simp only [List.set_cons_zero, List.set_cons_succ]
                    refine heldTake 1 61 rfl rfl (by kernel_rfl) (by kernel_rfl) (by kernel_rfl) (fun _ _ _ h => h) hS0 (.inl ⟨by rfl, by intro w' hS; obtain ⟨s1, s2, s3, s4⟩ := hS; go_simp; (try rfl)⟩) ?_
                    simp only [List.set_cons_zero, List.set_cons_succ]
                    refine heldTake 2 62 rfl rfl (by kernel_rfl) (by kernel_rfl) (by kernel_rfl) (fun _ _ _ h => h) hS0 (.inl ⟨by rfl, by intro w' hS; obtain ⟨s1, s2, s3, s4⟩ := hS; go_simp; (try rfl)⟩) ?_
                    simp only [List.set_cons_zero, List.set_cons_succ]
                    refine heldTake 3 63 rfl rfl (by kernel_rfl) (by kernel_rfl) (by kernel_rfl) (fun _ _ _ h => h) hS0 (.inl ⟨by rfl, by intro w' hS; obtain ⟨s1, s2, s3, s4⟩ := hS; go_simp; (try rfl)⟩) ?_
                    simp only [List.set_cons_zero, List.set_cons_succ]
                    refine heldTake 4 64 rfl rfl (by kernel_rfl) (by kernel_rfl) (by kernel_rfl) (fun _ _ _ h => h) hS0 (.inl ⟨by rfl, by intro w' hS; obtain ⟨s1, s2, s3, s4⟩ := hS; go_simp; (try rfl)⟩) ?_
                    simp only [List.set_cons_zero, List.set_cons_succ]
                    refine heldTake 5 65 rfl rfl (by kernel_rfl) (by kernel_rfl) (by kernel_rfl) (fun _ _ _ h => h) hS0 (.inr ⟨by rfl, rfl⟩) ?_
                    simp only [List.set_cons_zero, List.set_cons_succ]
                    refine heldTake 6 66 rfl rfl (by kernel_rfl) (by kernel_rfl) (by kernel_rfl) (fun _ _ _ h => h) hS0 (.inr ⟨by rfl, rfl⟩) ?_
                    simp only [List.set_cons_zero, List.set_cons_succ]
                    refine heldTake 7 67 rfl rfl (by kernel_rfl) (by kernel_rfl) (by kernel_rfl) (fun _ _ _ h => h) hS0 (.inr ⟨by rfl, rfl⟩) ?_
                    simp only [List.set_cons_zero, List.set_cons_succ]
                    refine heldTake 8 68 rfl rfl (by kernel_rfl) (by kernel_rfl) (by kernel_rfl) (fun _ _ _ h => h) hS0 (.inr ⟨by rfl, rfl⟩) ?_
                    simp only [List.set_cons_zero, List.set_cons_succ]
                    refine heldTake 9 69 rfl rfl (by kernel_rfl) (by kernel_rfl) (by kernel_rfl) (fun _ _ _ h => h) hS0 (.inr ⟨by rfl, rfl⟩) ?_
                    simp only [List.set_cons_zero, List.set_cons_succ]
                    refine heldTake 10 70 rfl rfl (by kernel_rfl) (by kernel_rfl) (by kernel_rfl) (fun _ _ _ h => h) hS0 (.inr ⟨by rfl, rfl⟩) ?_
                    simp only [List.set_cons_zero, List.set_cons_succ]
                    refine heldTake 11 71 rfl rfl (by kernel_rfl) (by kernel_rfl) (by kernel_rfl) (fun _ _ _ h => h) hS0 (.inr ⟨by rfl, rfl⟩) ?_
                    simp only [List.set_cons_zero, List.set_cons_succ]
                    refine heldTake 12 72 rfl rfl (by kernel_rfl) (by kernel_rfl) (by kernel_rfl) (fun _ _ _ h => h) hS0 (.inr ⟨by rfl, rfl⟩) ?_
                    simp only [List.set_cons_zero, List.set_cons_succ]
                    refine heldTake 13 73 rfl rfl (by kernel_rfl) (by kernel_rfl) (by kernel_rfl) (fun _ _ _ h => h) hS0 (.inr ⟨by rfl, rfl⟩) ?_
                    simp only [List.set_cons_zero, List.set_cons_succ]
                    refine heldTake 14 74 rfl rfl (by kernel_rfl) (by kernel_rfl) (by kernel_rfl) (fun _ _ _ h => h) hS0 (.inl ⟨by rfl, by intro w' hS; obtain ⟨s1, s2, s3, s4⟩ := hS; go_simp; (try rfl)⟩) ?_
                    simp only [List.set_cons_zero, List.set_cons_succ]
                    refine wpAnyH_done (by kernel_rfl) ?_ _
                    clear hS0
                    have HJD := Lib.hid (HJK.out.next (show Below wr.heap.size wr wr.drew from (Below.refl _ _).drew))
                    go_wp2
                    go_roundw
                    case rel => exact ⟨k + 1, by go_num, by omega, HNX.out.1, HNX.out.2, HJD.out⟩
                    case measure => simp [intOf]; omega
                  · have tA : decide (prev + 1 + (k : Int) ≤ x.base) = false := by simpa using hA
                    obtain ⟨T2, hT2⟩ : ∃ T2, x.tm (prev + 1 + (k : Int)) = T2 := ⟨_, rfl⟩
                    have HT2 := Lib.hid hT2
                    by_cases hB : T2 = mi.t
                    · have tB : (T2 == mi.t) = true := by simpa using hB
                      have HNX := Lib.hid (HSTEP.out (.inr (hT2.trans hB)))
                      clear hA hB hT2
                      go_wp2_with fail
                      refine wp_region_any (by kernel_rfl) ?_
                      refine wpAny_of_held (S := RJS w.heap.size x a ms.length c b (o + k * 2) mi.t) _ _ _ _ ?_
                      have hS0 : RJS w.heap.size x a ms.length c b (o + k * 2) mi.t wr.drew := HS.out.keep (N := wr.heap.size) (Below.refl _ _).drew (by omega) (by omega)
                      refine heldTake 0 60 rfl rfl (by kernel_rfl) (by kernel_rfl) (by kernel_rfl) (fun _ _ _ h => h) hS0 (.inl ⟨by rfl, by intro w' hS; obtain ⟨s1, s2, s3, s4⟩ := hS; go_simp; (try rfl)⟩) ?_
                      simp only [List.set_cons_zero, List.set_cons_succ]
                      refine heldTake 1 61 rfl rfl (by kernel_rfl) (by kernel_rfl) (by kernel_rfl) (fun _ _ _ h => h) hS0 (.inl ⟨by rfl, by intro w' hS; obtain ⟨s1, s2, s3, s4⟩ := hS; go_simp; (try rfl)⟩) ?_
                      simp only [List.set_cons_zero, List.set_cons_succ]
                      refine heldTake 2 62 rfl rfl (by kernel_rfl) (by kernel_rfl) (by kernel_rfl) (fun _ _ _ h => h) hS0 (.inl ⟨by rfl, by intro w' hS; obtain ⟨s1, s2, s3, s4⟩ := hS; go_simp; (try rfl)⟩) ?_
                      simp only [List.set_cons_zero, List.set_cons_succ]
                      refine heldTake 3 63 rfl rfl (by kernel_rfl) (by kernel_rfl) (by kernel_rfl) (fun _ _ _ h => h) hS0 (.inl ⟨by rfl, by intro w' hS; obtain ⟨s1, s2, s3, s4⟩ := hS; go_simp; (try rfl)⟩) ?_
                      simp only [List.set_cons_zero, List.set_cons_succ]
                      refine heldTake 4 64 rfl rfl (by kernel_rfl) (by kernel_rfl) (by kernel_rfl) (fun _ _ _ h => h) hS0 (.inl ⟨by rfl, by intro w' hS; obtain ⟨s1, s2, s3, s4⟩ := hS; go_simp; (try rfl)⟩) ?_
                      simp only [List.set_cons_zero, List.set_cons_succ]
                      refine heldTake 5 65 rfl rfl (by kernel_rfl) (by kernel_rfl) (by kernel_rfl) (fun _ _ _ h => h) hS0 (yieldsIf_load_is (by rfl) 88 (.tmp 4) rfl w.heap.size rfl 88 #[.int .i64 x.base, .int .i64 x.term, .slice a ms.length c] _ (fun _ h => h.r0) Try.underlying88 rfl infoRLine) ?_
                      simp only [List.set_cons_zero, List.set_cons_succ]
                      refine heldTake 6 66 rfl rfl (by kernel_rfl) (by kernel_rfl) (by kernel_rfl) (fun _ _ _ h => h) hS0 (.inl ⟨by rfl, by intro w' hS; obtain ⟨s1, s2, s3, s4⟩ := hS; go_simp; (try rfl)⟩) ?_
                      simp only [List.set_cons_zero, List.set_cons_succ]
                      refine heldTake 8 68 rfl rfl (by kernel_rfl) (by kernel_rfl) (by kernel_rfl) (fun _ _ _ h => h) hS0 (.inl ⟨by rfl, by intro w' hS; obtain ⟨s1, s2, s3, s4⟩ := hS; go_simp; (try rfl)⟩) ?_
                      simp only [List.set_cons_zero, List.set_cons_succ]
                      refine heldTake 9 69 rfl rfl (by kernel_rfl) (by kernel_rfl) (by kernel_rfl) (fun _ _ _ h => h) hS0 (.inl ⟨by rfl, by intro w' hS; obtain ⟨s1, s2, s3, s4⟩ := hS; go_simp; (try rfl)⟩) ?_
                      simp only [List.set_cons_zero, List.set_cons_succ]
                      refine heldTake 10 70 rfl rfl (by kernel_rfl) (by kernel_rfl) (by kernel_rfl) (fun _ _ _ h => h) hS0 (.inl ⟨by rfl, by intro w' hS; obtain ⟨s1, s2, s3, s4⟩ := hS; go_simp; (try rfl)⟩) ?_
                      simp only [List.set_cons_zero, List.set_cons_succ]
                      refine heldTake 11 71 rfl rfl (by kernel_rfl) (by kernel_rfl) (by kernel_rfl) (fun _ _ _ h => h) hS0 (.inl ⟨by rfl, by intro w' hS; obtain ⟨s1, s2, s3, s4⟩ := hS; go_simp; (try rfl)⟩) ?_
                      simp only [List.set_cons_zero, List.set_cons_succ]
                      refine heldTake 12 72 rfl rfl (by kernel_rfl) (by kernel_rfl) (by kernel_rfl) (fun _ _ _ h => h) hS0 (.inl ⟨by rfl, by intro w' hS; obtain ⟨s1, s2, s3, s4⟩ := hS; go_simp; (try rfl)⟩) ?_
                      simp only [List.set_cons_zero, List.set_cons_succ]
                      refine heldOne 7 (by kernel_rfl) rfl (by rfl) ?_
                      clear hS0
                      go_simp
                      have hdr : Below wr.heap.size wr wr.drew := (Below.refl _ _).drew
                      refine (r17At x hg a c ms (prev + 1 + (k : Int)) _ ((H.out.below (HJK.out.next hdr).bel (Nat.le_refl _)).mono (HJK.out.next hdr).bel.size)).mono ?_
                      rintro e w9 ⟨rfl, hb9⟩
                      rw [HT2.out]
                      have HJ9 := Lib.hid ((HJK.out.next hdr).next hb9)
                      have hS9 := HS.out.keep (hdr.trans hb9) (by omega) (by omega)
                      have HS9 := Lib.hid hS9
                      refine ⟨hS9, ?_⟩
                      clear hb9 hdr
                      refine heldTake 13 73 rfl rfl (by kernel_rfl) (by kernel_rfl) (by kernel_rfl) (fun _ _ _ h => h) hS9 (.inl ⟨by rfl, by intro w' hS; obtain ⟨s1, s2, s3, s4⟩ := hS; go_simp; (try rfl)⟩) ?_
                      simp only [List.set_cons_zero, List.set_cons_succ]
                      refine heldTake 14 74 rfl rfl (by kernel_rfl) (by kernel_rfl) (by kernel_rfl) (fun _ _ _ h => h) hS9 (.inl ⟨by rfl, by intro w' hS; obtain ⟨s1, s2, s3, s4⟩ := hS; go_simp; (try rfl)⟩) ?_
                      simp only [List.set_cons_zero, List.set_cons_succ]
                      refine wpAnyH_done (by kernel_rfl) ?_ _
                      clear hS9
                      go_wp2
                      go_roundw
                      case rel => exact ⟨k + 1, by go_num, by omega, HNX.out.1, HNX.out.2, HJ9.out⟩
                      case measure => simp [intOf]; omega
                    · have tB : (T2 == mi.t) = false := by simpa using hB
                      have HD2 := Lib.hid (show x.diff (prev + 1) (js.map MItem.it) = some (prev + 1 + (k : Int), (js.drop k).map MItem.it) from by
                        rw [HDF.out]
                        refine PLine.diff_stop (by simp; omega) ?_
                        have e9 : js[k] = mi := by have h10 := HMI.out; rw [List.getElem?_eq_getElem hkl] at h10; injection h10
                        rw [List.drop_eq_getElem_cons hkl, e9]
                        simp only [List.map_cons, List.getD_cons_zero]
                        rw [hT2]
                        intro h9
                        rcases h9 with h9 | h9
                        · exact hA h9
                        · exact hB h9)
                      obtain ⟨kp, hkp⟩ : ∃ kp : Nat, prev + 1 + (k : Int) - x.base - 1 = (kp : Int) := ⟨(prev + 1 + (k : Int) - x.base - 1).toNat, by omega⟩
                      have hlb9 := HLB.out
                      have hkm : kp ≤ ms.length := by omega
                      have hmc := H.out.its.sl.hle
                      have hkc : kp ≤ c := by omega
                      have HKM := Lib.hid hkm
                      have HKC := Lib.hid hkc
                      obtain ⟨n2, hn2⟩ : ∃ n2, n2 = js.length - k := ⟨_, rfl⟩
                      have HN2 := Lib.hid hn2
                      have hn2b : n2 ≤ 100000 := by omega
                      obtain ⟨f, hf⟩ : ∃ f, fitsB x ((kp : Int) + (n2 : Int)) = f := ⟨_, rfl⟩
                      have HF := Lib.hid hf
                      have HE5 := Lib.hid (show E = if fitsB x ((kp : Int) + (n2 : Int)) = true then (⟨x.base, x.term, x.l.take kp ++ (js.drop k).map MItem.it⟩, prev + 1 + (k : Int), true) else (x, 0, false) from by
                        rw [HE4.out, HD2.out]
                        simp only [List.length_map, List.length_drop]
                        rw [hkp, ← hn2, show ((kp : Int)).toNat = kp by omega]
                        (try rfl))
                      have s1 : IntKind.i64.wrap (prev + 1 + (k : Int) - x.base) = prev + 1 + (k : Int) - x.base := IntWalk.i64_in _ (by omega)
                      have wK : IntKind.i64.wrap (kp : Int) = kp := IntWalk.i64_in _ (by omega)
                      have hK0 : (0 : Int) ≤ (kp : Int) := by omega
                      have hK1 : (kp : Int) ≤ (c : Int) := by omega
                      have wk2 : IntKind.i64.wrap (k : Int) = k := IntWalk.i64_in _ (by omega)
                      have hk2 : (k : Int) ≤ (js.length : Int) := by omega
                      obtain ⟨A2, hA2⟩ : ∃ A2, (if jc = k then some (⟨b, o, none⟩ : Addr) else some ⟨b, o + k * 2, none⟩) = A2 := ⟨_, rfl⟩
                      have HSJ := Lib.hid (show ItemsAt w w.heap.size A2 n2 (jc - k) (js.drop k) from by
                        have h9 := HJ.out.from_ (k := k) (by omega)
                        rw [← hA2, hn2]
                        have e9 : (if jc = k then some (⟨b, o, none⟩ : Addr) else some ⟨b, o + k * 2, none⟩) = (if jc = k then some (⟨b, o, none⟩ : Addr) else (some (⟨b, o, none⟩ : Addr)).map (·.add (k * 2))) := by split <;> simp [Addr.add_lit]
                        rw [e9]
                        exact h9)
                      have HSU := Lib.hid (show SlAt w w.heap.size 2 a kp c (cellsM (ms.take kp)) from by
                        have h9 := H.out.its.sl.upto (k := kp) (m := c) hkm (by omega) (Nat.le_refl _)
                        rwa [cellsM_take] at h9)
                      clear hA hB hT2 hf hlb9 hmc hkm hn2 tA
                      have tA : decide (prev + 1 + (k : Int) ≤ x.base) = false := by simp; omega
                      go_wp2_with fail
                      refine wp_region_any (by kernel_rfl) ?_
                      refine wpAny_of_held (S := RJS w.heap.size x a ms.length c b (o + k * 2) mi.t) _ _ _ _ ?_
                      have hS0 : RJS w.heap.size x a ms.length c b (o + k * 2) mi.t wr.drew := HS.out.keep (N := wr.heap.size) (Below.refl _ _).drew (by omega) (by omega)
                      refine heldTake 0 60 rfl rfl (by kernel_rfl) (by kernel_rfl) (by kernel_rfl) (fun _ _ _ h => h) hS0 (.inl ⟨by rfl, by intro w' hS; obtain ⟨s1, s2, s3, s4⟩ := hS; go_simp; (try rfl)⟩) ?_
                      simp only [List.set_cons_zero, List.set_cons_succ]
                      refine heldTake 1 61 rfl rfl (by kernel_rfl) (by kernel_rfl) (by kernel_rfl) (fun _ _ _ h => h) hS0 (.inl ⟨by rfl, by intro w' hS; obtain ⟨s1, s2, s3, s4⟩ := hS; go_simp; (try rfl)⟩) ?_
                      simp only [List.set_cons_zero, List.set_cons_succ]
                      refine heldTake 2 62 rfl rfl (by kernel_rfl) (by kernel_rfl) (by kernel_rfl) (fun _ _ _ h => h) hS0 (.inl ⟨by rfl, by intro w' hS; obtain ⟨s1, s2, s3, s4⟩ := hS; go_simp; (try rfl)⟩) ?_
                      simp only [List.set_cons_zero, List.set_cons_succ]
                      refine heldTake 3 63 rfl rfl (by kernel_rfl) (by kernel_rfl) (by kernel_rfl) (fun _ _ _ h => h) hS0 (.inl ⟨by rfl, by intro w' hS; obtain ⟨s1, s2, s3, s4⟩ := hS; go_simp; (try rfl)⟩) ?_
                      simp only [List.set_cons_zero, List.set_cons_succ]
                      refine heldTake 4 64 rfl rfl (by kernel_rfl) (by kernel_rfl) (by kernel_rfl) (fun _ _ _ h => h) hS0 (.inl ⟨by rfl, by intro w' hS; obtain ⟨s1, s2, s3, s4⟩ := hS; go_simp; (try rfl)⟩) ?_
                      simp only [List.set_cons_zero, List.set_cons_succ]
                      refine heldTake 5 65 rfl rfl (by kernel_rfl) (by kernel_rfl) (by kernel_rfl) (fun _ _ _ h => h) hS0 (yieldsIf_load_is (by rfl) 88 (.tmp 4) rfl w.heap.size rfl 88 #[.int .i64 x.base, .int .i64 x.term, .slice a ms.length c] _ (fun _ h => h.r0) Try.underlying88 rfl infoRLine) ?_
                      simp only [List.set_cons_zero, List.set_cons_succ]
                      refine heldTake 6 66 rfl rfl (by kernel_rfl) (by kernel_rfl) (by kernel_rfl) (fun _ _ _ h => h) hS0 (.inl ⟨by rfl, by intro w' hS; obtain ⟨s1, s2, s3, s4⟩ := hS; go_simp; (try rfl)⟩) ?_
                      simp only [List.set_cons_zero, List.set_cons_succ]
                      refine heldTake 8 68 rfl rfl (by kernel_rfl) (by kernel_rfl) (by kernel_rfl) (fun _ _ _ h => h) hS0 (.inl ⟨by rfl, by intro w' hS; obtain ⟨s1, s2, s3, s4⟩ := hS; go_simp; (try rfl)⟩) ?_
                      simp only [List.set_cons_zero, List.set_cons_succ]
                      refine heldTake 9 69 rfl rfl (by kernel_rfl) (by kernel_rfl) (by kernel_rfl) (fun _ _ _ h => h) hS0 (.inl ⟨by rfl, by intro w' hS; obtain ⟨s1, s2, s3, s4⟩ := hS; go_simp; (try rfl)⟩) ?_
                      simp only [List.set_cons_zero, List.set_cons_succ]
                      refine heldTake 10 70 rfl rfl (by kernel_rfl) (by kernel_rfl) (by kernel_rfl) (fun _ _ _ h => h) hS0 (.inl ⟨by rfl, by intro w' hS; obtain ⟨s1, s2, s3, s4⟩ := hS; go_simp; (try rfl)⟩) ?_
                      simp only [List.set_cons_zero, List.set_cons_succ]
                      refine heldTake 11 71 rfl rfl (by kernel_rfl) (by kernel_rfl) (by kernel_rfl) (fun _ _ _ h => h) hS0 (.inl ⟨by rfl, by intro w' hS; obtain ⟨s1, s2, s3, s4⟩ := hS; go_simp; (try rfl)⟩) ?_
                      simp only [List.set_cons_zero, List.set_cons_succ]
                      refine heldTake 12 72 rfl rfl (by kernel_rfl) (by kernel_rfl) (by kernel_rfl) (fun _ _ _ h => h) hS0 (.inl ⟨by rfl, by intro w' hS; obtain ⟨s1, s2, s3, s4⟩ := hS; go_simp; (try rfl)⟩) ?_
                      simp only [List.set_cons_zero, List.set_cons_succ]
                      refine heldOne 7 (by kernel_rfl) rfl (by rfl) ?_
                      clear hS0
                      go_simp
                      have hdr : Below wr.heap.size wr wr.drew := (Below.refl _ _).drew
                      refine (r17At x hg a c ms (prev + 1 + (k : Int)) _ ((H.out.below (HJK.out.next hdr).bel (Nat.le_refl _)).mono (HJK.out.next hdr).bel.size)).mono ?_
                      rintro e w9 ⟨rfl, hb9⟩
                      rw [HT2.out]
                      have HJ9 := Lib.hid ((HJK.out.next hdr).next hb9)
                      have hS9 := HS.out.keep (hdr.trans hb9) (by omega) (by omega)
                      have HS9 := Lib.hid hS9
                      refine ⟨hS9, ?_⟩
                      clear hb9 hdr
                      refine heldTake 13 73 rfl rfl (by kernel_rfl) (by kernel_rfl) (by kernel_rfl) (fun _ _ _ h => h) hS9 (.inl ⟨by rfl, by intro w' hS; obtain ⟨s1, s2, s3, s4⟩ := hS; go_simp; (try rfl)⟩) ?_
                      simp only [List.set_cons_zero, List.set_cons_succ]
                      refine heldTake 14 74 rfl rfl (by kernel_rfl) (by kernel_rfl) (by kernel_rfl) (fun _ _ _ h => h) hS9 (.inl ⟨by rfl, by intro w' hS; obtain ⟨s1, s2, s3, s4⟩ := hS; go_simp; (try rfl)⟩) ?_
                      simp only [List.set_cons_zero, List.set_cons_succ]
                      refine wpAnyH_done (by kernel_rfl) ?_ _
                      clear hS9
                      clear hwr HSTEP
                      go_wp2_with fail
                      refine wp_region_any (by kernel_rfl) ?_
                      refine wpAny_of_held (S := RJS w.heap.size x a ms.length c b (o + k * 2) mi.t) _ _ _ _ ?_
                      obtain ⟨X, hX⟩ : ∃ X, X = w9.drew := ⟨_, rfl⟩
                      refine (show wpAnyH _ _ _ _ _ _ _ _ w9.drew from ?_)
                      rw [← hX]
                      have hs9 := HJ9.out.sz
                      have BX := Lib.hid (show Below w9.heap.size w9 X by rw [hX]; exact (Below.refl _ _).drew)
                      have qX : w9.heap.size ≤ X.heap.size := BX.out.size
                      have hSX := HS9.out.keep BX.out (by omega) (by omega)
                      clear hX
                      refine heldTake 1 76 rfl rfl (by kernel_rfl) (by kernel_rfl) (by kernel_rfl) (fun _ _ _ h => h) hSX (.inl ⟨by rfl, by intro w' hS; obtain ⟨s1, s2, s3, s4⟩ := hS; go_simp; (try rfl)⟩) ?_
                      simp only [List.set_cons_zero, List.set_cons_succ]
                      refine heldTake 2 77 rfl rfl (by kernel_rfl) (by kernel_rfl) (by kernel_rfl) (fun _ _ _ h => h) hSX (.inl ⟨by rfl, by intro w' hS; obtain ⟨s1, s2, s3, s4⟩ := hS; go_simp; (try rfl)⟩) ?_
                      simp only [List.set_cons_zero, List.set_cons_succ]
                      refine heldTake 3 78 rfl rfl (by kernel_rfl) (by kernel_rfl) (by kernel_rfl) (fun _ _ _ h => h) hSX (.inl ⟨by rfl, by intro w' hS; obtain ⟨s1, s2, s3, s4⟩ := hS; go_simp; (try rfl)⟩) ?_
                      simp only [List.set_cons_zero, List.set_cons_succ]
                      refine heldTake 4 79 rfl rfl (by kernel_rfl) (by kernel_rfl) (by kernel_rfl) (fun _ _ _ h => h) hSX (.inl ⟨by rfl, by intro w' hS; obtain ⟨s1, s2, s3, s4⟩ := hS; go_simp; (try rfl)⟩) ?_
                      simp only [List.set_cons_zero, List.set_cons_succ]
                      refine heldTake 5 80 rfl rfl (by kernel_rfl) (by kernel_rfl) (by kernel_rfl) (fun _ _ _ h => h) hSX (.inl ⟨by rfl, by intro w' hS; obtain ⟨s1, s2, s3, s4⟩ := hS; go_simp; (try rfl)⟩) ?_
                      simp only [List.set_cons_zero, List.set_cons_succ]
                      refine heldTake 6 81 rfl rfl (by kernel_rfl) (by kernel_rfl) (by kernel_rfl) (fun _ _ _ h => h) hSX (.inl ⟨by rfl, by intro w' hS; obtain ⟨s1, s2, s3, s4⟩ := hS; go_simp; (try rfl)⟩) ?_
                      simp only [List.set_cons_zero, List.set_cons_succ]
                      refine heldTake 7 82 rfl rfl (by kernel_rfl) (by kernel_rfl) (by kernel_rfl) (fun _ _ _ h => h) hSX (.inl ⟨by rfl, by intro w' hS; obtain ⟨s1, s2, s3, s4⟩ := hS; go_simp; (try rfl)⟩) ?_
                      simp only [List.set_cons_zero, List.set_cons_succ]
                      refine heldTake 8 83 rfl rfl (by kernel_rfl) (by kernel_rfl) (by kernel_rfl) (fun _ _ _ h => h) hSX (.inl ⟨by rfl, by intro w' hS; obtain ⟨s1, s2, s3, s4⟩ := hS; go_simp; (try rfl)⟩) ?_
                      simp only [List.set_cons_zero, List.set_cons_succ]
                      refine heldTake 10 85 rfl rfl (by kernel_rfl) (by kernel_rfl) (by kernel_rfl) (fun _ _ _ h => h) hSX (.inl ⟨by rfl, by intro w' hS; obtain ⟨s1, s2, s3, s4⟩ := hS; go_simp; (try rfl)⟩) ?_
                      simp only [List.set_cons_zero, List.set_cons_succ]
                      refine heldTake 11 86 rfl rfl (by kernel_rfl) (by kernel_rfl) (by kernel_rfl) (fun _ _ _ h => h) hSX (.inl ⟨by rfl, by intro w' hS; obtain ⟨s1, s2, s3, s4⟩ := hS; go_simp; (try rfl)⟩) ?_
                      simp only [List.set_cons_zero, List.set_cons_succ]
                      refine heldTake 12 87 rfl rfl (by kernel_rfl) (by kernel_rfl) (by kernel_rfl) (fun _ _ _ h => h) hSX (.inl ⟨by rfl, by intro w' hS; obtain ⟨s1, s2, s3, s4⟩ := hS; go_simp; (try rfl)⟩) ?_
                      simp only [List.set_cons_zero, List.set_cons_succ]
                      clear hSX s1 wK hK0 hK1 wk2 hk2 hA2
                      refine heldOne 0 (by kernel_rfl) rfl (by rfl) ?_
                      go_simp
                      obtain ⟨U1, hU1⟩ : ∃ z, z = X.alloc (.cells #[] 45) := ⟨_, rfl⟩
                      rw [← hU1]
                      have AU1 : Below X.heap.size X U1 := by rw [hU1]; exact (Below.refl _ _).alloc (Nat.le_refl _) _
                      have BU1 := Lib.hid (show Below w9.heap.size w9 U1 from BX.out.trans (AU1.mono qX))
                      have qU1 : w9.heap.size ≤ U1.heap.size := BU1.out.size
                      have E1 := Lib.hid (show U1.ownsRow w9.heap.size 45 2 (.slice (some ⟨X.heap.size, 0, none⟩) 0 0) 0 [] by rw [hU1]; exact ownsRow_nilT X w9.heap.size 2 qX 45)
                      clear hU1 AU1
                      refine ⟨HS9.out.keep BU1.out (by omega) (by omega), ?_⟩
                      refine heldOne 9 (by kernel_rfl) rfl (by rfl) ?_
                      refine wp_append_sl U1 (.tmp 75) (.tmp 83) 49 rfl w9.heap.size 45 i0 (.agg #[.int .i64 0, .slice none 0 0]) 2 32 Try.underlying49 hi hz0 hz1 hz2 rfl (by decide) (.slice (some ⟨X.heap.size, 0, none⟩) 0 0) 0 [] rfl E1.out U1.heap.size a kp c (cellsM (ms.take kp)) rfl ((HSU.out.below (HJ9.out.bel.trans (BU1.out.mono HJ9.out.bel.size)) (Nat.le_refl _)).mono (by omega)) (cellsM_one _) (by unfold maxLen; have := HKM.out; omega) (by have := HKM.out; omega) qU1 ?_
                      intro a2 c2 U2 o2 g2 _
                      simp only [Nat.zero_add, List.nil_append] at o2 ⊢
                      have BU2 := Lib.hid (show Below w9.heap.size w9 U2 from BU1.out.grown g2 qU1 (fun k hk => (own_lt E1.out hk).1))
                      have qU2 : w9.heap.size ≤ U2.heap.size := BU2.out.size
                      have O2 := Lib.hid o2
                      clear o2 g2
                      refine ⟨HS9.out.keep BU2.out (by omega) (by omega), ?_⟩
                      refine heldOne 13 (by kernel_rfl) rfl (by rfl) ?_
                      refine wp_append_sl U2 (.tmp 84) (.tmp 87) 49 rfl w9.heap.size 45 i0 (.agg #[.int .i64 0, .slice none 0 0]) 2 32 Try.underlying49 hi hz0 hz1 hz2 rfl (by decide) (.slice a2 kp c2) kp (cellsM (ms.take kp)) rfl O2.out U2.heap.size A2 n2 (jc - k) (cellsM (js.drop k)) (by rw [HN2.out]; rfl) ((HSJ.out.below (HJ9.out.bel.trans (BU2.out.mono HJ9.out.bel.size)) (Nat.le_refl _)).mono (by omega)).sl (cellsM_one _) (by unfold maxLen; have := HKM.out; omega) (by have := HKM.out; omega) qU2 ?_
                      intro a3 c3 U3 o3 g3 _
                      have BU3 := Lib.hid (show Below w9.heap.size w9 U3 from BU2.out.grown g3 qU2 (fun k hk => (own_lt O2.out hk).1))
                      have qU3 : w9.heap.size ≤ U3.heap.size := BU3.out.size
                      have O3 := Lib.hid o3
                      clear o3 g3
                      have hSU3 := HS9.out.keep BU3.out (by omega) (by omega)
                      refine ⟨hSU3, ?_⟩
                      go_simp
                      refine heldTake 14 14 rfl rfl (by kernel_rfl) (by kernel_rfl) (by kernel_rfl) (fun _ _ _ h => h) hSU3 (.inl ⟨by rfl, by intro w' hS; obtain ⟨s1, s2, s3, s4⟩ := hS; go_simp; (try rfl)⟩) ?_
                      simp only [List.set_cons_zero, List.set_cons_succ]
                      refine wpAnyH_done (by kernel_rfl) ?_ _
                      clear hSU3
                      have HJU := Lib.hid (HJ9.out.next BU3.out)
                      obtain ⟨d0, d1, d2⟩ := HJU.out.cells
                      go_wp2_with fail
                      refine (r17Fits x hb0 hb1 a ms.length c _ _).mono ?_
                      rintro e w10 ⟨rfl, hb10⟩
                      have hf9 := HF.out
                      rw [HF.out]
                      have HJ10 := Lib.hid (HJU.out.next hb10)
                      have HO10 := Lib.hid (own_below' O3.out hb10)
                      have BU10 := Lib.hid (BU3.out.trans (hb10.mono qU3))
                      clear hb10 d0 d1 d2 hf9
                      cases f with
                      | false =>
                        have HE2 := Lib.hid (show E = (x, 0, false) from by rw [HE5.out, HF.out]; rfl)
                        obtain ⟨d0, d1, d2⟩ := HJ10.out.cells
                        go_wp2_with (refine wpList_store_abs rfl 88 (.tmp 8) (.tmp 94) rfl (w.heap.size + 1) #[.int .i64 x.base, .int .i64 x.term, .slice a ms.length c] rfl rfl 88 _ HJ10.out.r1 infoRLine rfl (by simp [Value.oneCell']) ?_; intro W5 hrow5 hoth5 hb5 hs5)
                        (try rw [Exit.noGoto_ret])
                        refine bodyPost_ret (results_row_tmp2 rfl _ _ (w.heap.size + 1) 88 _ (0, 0) _ rfl hrow5 Try.underlying88 rfl infoRLine) rfl ?_
                        exact HJ10.out.same H.out hb5 js E 0 false HE2.out
                      | true =>
                        have HE2 := Lib.hid (show E = (⟨x.base, x.term, x.l.take kp ++ (js.drop k).map MItem.it⟩, prev + 1 + (k : Int), true) from by rw [HE5.out, HF.out]; rfl)
                        obtain ⟨d0, d1, d2⟩ := HJ10.out.cells
                        have f2 : w10.frozen? ⟨w.heap.size, 2, none⟩ = false := by simp [World.frozen?, HJ10.out.r0]
                        have HR1S := Lib.hid (show (w10.setCell ⟨w.heap.size, 2, none⟩ (.slice a3 (kp + n2) c3)).heap[w.heap.size + 1]? = some (.cells #[.int .i64 0, .int .i64 0, .slice none 0 0] 88 (0, 0)) from (Below.heap_setCell _ _ _ _ (by simp)).trans HJ10.out.r1)
                        have HOV := Lib.hid (World.ownsRow.kept HO10.out (w' := w10.setCell ⟨w.heap.size, 2, none⟩ (.slice a3 (kp + n2) c3)) (row := some w.heap.size) ⟨rfl, rfl, rfl, by simp, fun k hk hne => Below.heap_setCell _ _ _ k (fun e => hne (by rw [e]))⟩ (.inr fun e => by have h9 := (own_lt HO10.out e).1; omega))
                        have HBV := Lib.hid (show Below w.heap.size w (w10.setCell ⟨w.heap.size, 2, none⟩ (.slice a3 (kp + n2) c3)) from HJ10.out.bel.trans ⟨rfl, rfl, rfl, by simp, fun k hk => Below.heap_setCell _ _ _ k (by show k ≠ w.heap.size; omega)⟩)
                        go_wp2_with (refine wpList_store_abs rfl 88 (.tmp 8) (.tmp 97) rfl (w.heap.size + 1) #[.int .i64 x.base, .int .i64 x.term, .slice a3 (kp + n2) c3] rfl rfl 88 _ HR1S.out infoRLine rfl (by simp [Value.oneCell']) ?_; intro W5 hrow5 hoth5 hb5 hs5)
                        (try rw [Exit.noGoto_ret])
                        refine bodyPost_ret (results_row_tmp2 rfl _ _ (w.heap.size + 1) 88 _ (0, 0) _ rfl hrow5 Try.underlying88 rfl infoRLine) rfl ?_
                        have HOF := World.ownsRow.kept HOV.out (w' := W5) (row := some (w.heap.size + 1)) ⟨hb5.os, hb5.tape, hb5.output, by omega, fun k hk hne => hoth5 k (fun e => hne (by rw [e]))⟩ (.inr fun e => by have h9 := (own_lt HOV.out e).1; omega)
                        have HBF := HBV.out.trans (hb5.mono (show w.heap.size ≤ w.heap.size + 1 by omega))
                        have hkm9 := HKM.out
                        have hn9 := HN2.out
                        unfold RJoinTo
                        rw [HE2.out]
                        have hlen9 : (ms.take kp ++ js.drop k).length = kp + n2 := by simp; omega
                        have hits9 := itemsOf HOF (ms := ms.take kp ++ js.drop k) hlen9 (by rw [cellsM_append]) fun m hm => by
                          simp only [List.mem_append] at hm
                          rcases hm with hm | hm
                          · exact ((H.out.its.bs m (List.mem_of_mem_take hm)).below HBF (Nat.le_refl _)).mono HBF.size
                          · exact ((HJ.out.bs m (List.mem_of_mem_drop hm)).below HBF (Nat.le_refl _)).mono HBF.size
                        exact ⟨a3, c3, ms.take kp ++ js.drop k, by rw [hlen9]; rfl, ⟨hits9, by rw [List.map_append, List.map_take, H.out.eq]⟩, HBF, Fresh.own HOF (by have := HJ9.out.bel.size; omega), fun m hm => by
                          simp only [List.mem_append] at hm
                          rcases hm with hm | hm
                          · exact .inl (List.mem_of_mem_take hm)
                          · exact .inr (List.mem_of_mem_drop hm)⟩
                · have hkn : k = js.length := by omega
                  subst hkn
                  have HE2 := Lib.hid (show E = (x, 0, true) from by rw [HE4.out, HDF.out, List.drop_length]; rfl)
                  clear hkl hk
                  obtain ⟨d0, d1, d2⟩ := HJK.out.cells
                  go_wp2_with (refine wpList_store_abs rfl 88 (.tmp 8) (.tmp 99) rfl (w.heap.size + 1) #[.int .i64 x.base, .int .i64 x.term, .slice a ms.length c] rfl rfl 88 _ HJK.out.r1 infoRLine rfl (by simp [Value.oneCell']) ?_; intro W5 hrow5 hoth5 hb5 hs5)
                  (try rw [Exit.noGoto_ret])
                  refine bodyPost_ret (results_row_tmp2 rfl _ _ (w.heap.size + 1) 88 _ (0, 0) _ rfl hrow5 Try.underlying88 rfl infoRLine) rfl ?_
                  exact HJK.out.same H.out hb5 js E 0 true HE2.out
        · have hE2 : E = (x, 0, false) := by
            rw [hE, PLine.join]
            by_cases h9 : prev < 0 ∨ x.last < prev ∨ ((js.map MItem.it).any fun it => !rightI it) = true
            · rw [if_pos h9]
            · rw [if_neg h9, if_pos ⟨hbp, by rw [hT]; exact htm⟩]
          have HE2 := Lib.hid hE2
          have t4 : (T != term) = true := by simpa using htm
          clear hE h hj hl h1 h2 hlastd hE2 hL hT htm
          have HLEN := Lib.hid H.out.len
          go_enter Try.func54, Try.ntmps54
          go_wp2_with fail
          rw [← HW1.out]
          obtain ⟨d0, d1, d2⟩ := HJ1.out.cells
          refine (r17Last x hg a ms.length c HLEN.out _).mono ?_
          rintro e w2 ⟨rfl, hb2⟩
          rw [HL.out]
          have HJ2 := Lib.hid (HJ1.out.next hb2)
          clear hb2 d0 d1 d2
          obtain ⟨d0, d1, d2⟩ := HJ2.out.cells
          go_wp2_with fail
          refine (r17At x hg a c ms prev _ ((H.out.below HJ2.out.bel (Nat.le_refl _)).mono HJ2.out.bel.size)).mono ?_
          rintro e w3 ⟨rfl, hb3⟩
          rw [HT.out]
          have HJ3 := Lib.hid (HJ2.out.next hb3)
          clear hb3 d0 d1 d2
          obtain ⟨d0, d1, d2⟩ := HJ3.out.cells
          (try (obtain ⟨d0, d1, d2⟩ := HJ3.out.cells))
          go_wp2_with (refine wpList_store_abs rfl 88 (.tmp 8) (.tmp 36) rfl (w.heap.size + 1) #[.int .i64 x.base, .int .i64 x.term, .slice a ms.length c] rfl rfl 88 _ HJ3.out.r1 infoRLine rfl (by simp [Value.oneCell']) ?_; intro W5 hrow5 hoth5 hb5 hs5)
          refine bodyPost_ret (results_row_tmp2 rfl _ _ (w.heap.size + 1) 88 _ (0, 0) _ rfl hrow5 Try.underlying88 rfl infoRLine) rfl ?_
          exact HJ3.out.same H.out hb5 js E 0 false HE2.out
      · have t3 : decide (x.base ≤ prev) = false := by simpa using hbp
        have HEB := Lib.hid (show anyBad js = true → E = (x, 0, false) from fun h9 => by
          rw [hE, PLine.join, if_pos (.inr (.inr (by rw [anyBad_map]; exact h9)))])
        have HE3 := Lib.hid (show anyBad js = false → E = match x.diff (prev + 1) (js.map MItem.it) with
            | none => (x, 0, true)
            | some (i, r) => if fitsB x (i - x.base - 1 + r.length) = true then (⟨x.base, x.term, x.l.take (i - x.base - 1).toNat ++ r⟩, i, true) else (x, 0, false) from fun h9 => by
          rw [hE, PLine.join, if_neg (by rw [anyBad_map, h9, hL]; simp; omega), if_neg (fun h10 => by first | exact hbp h10.1 | exact h10.2 (hT.trans htm))]; rfl)
        have HLB := Lib.hid (show L = x.base + (ms.length : Int) by omega)
        have hLm : L ≤ 1099511627776 := by omega
        have hpl : prev ≤ L := by omega
        have hp1 : 0 ≤ prev := by omega
        have hLb0 : x.base ≤ L := by omega
        clear hE h hj hl h1 h2 hlastd hL hlp hp0
        have HLEN := Lib.hid H.out.len
        go_enter Try.func54, Try.ntmps54
        go_wp2_with fail
        rw [← HW1.out]
        obtain ⟨d0, d1, d2⟩ := HJ1.out.cells
        refine (r17Last x hg a ms.length c HLEN.out _).mono ?_
        rintro e w2 ⟨rfl, hb2⟩
        rw [HL.out]
        have HJ2 := Lib.hid (HJ1.out.next hb2)
        clear hb2 d0 d1 d2
        obtain ⟨d0, d1, d2⟩ := HJ2.out.cells
        go_wp2_with fail
        go_loopw [11] (fun kv wr => ∃ k : Nat, kv = .int .i64 k ∧ k ≤ js.length ∧ anyBad (js.take k) = false ∧ JB w x a ms.length c wr) (fun kv _ => js.length - (intOf kv).toNat)
        case atStart => exact ⟨0, rfl, by omega, rfl, HJ2.out⟩
        case round =>
          obtain ⟨k, rfl, hk, hak, hjk⟩ := hrel
          have HAK := Lib.hid hak
          have HJK := Lib.hid hjk
          clear hak hjk d0 d1 d2
          obtain ⟨d0, d1, d2⟩ := HJK.out.cells
          by_cases hkl : k < js.length
          · obtain ⟨mi, hmi⟩ : ∃ mi, js[k]? = some mi := ⟨_, List.getElem?_eq_getElem hkl⟩
            have hbsk := (HJ.out.bs mi (List.mem_of_getElem? hmi))
            have hmn : mi.n = mi.b.length := hbsk.hlen.symm
            have HMI := Lib.hid hmi
            obtain ⟨b, o, rfl, hb, k0, k1⟩ := HJ.out.cell hmi
            rw [hmn] at k1
            have c0 : wr.cell? ⟨b, o + k * 2, none⟩ = some (.int .i64 mi.t) := (HJK.out.bel.cell (p := ⟨b, o + k * 2, none⟩) hb).trans k0
            have c1 : wr.cell? ⟨b, o + k * 2 + 1, none⟩ = some (.slice mi.a mi.b.length mi.c) := (HJK.out.bel.cell (p := ⟨b, o + (k * 2 + 1), none⟩) hb).trans k1
            obtain ⟨R, hR⟩ : ∃ R, rightI (mi.t, mi.b) = R := ⟨_, rfl⟩
            have HR := Lib.hid hR
            have tk : decide ((k : Int) < (js.length : Int)) = true := by simpa using hkl
            have hk0 : (0 : Int) ≤ (k : Int) := by omega
            have hk1 : (k : Int) < (js.length : Int) := by omega
            clear k0 k1 hmi hbsk hmn hR
            cases R with
            | false =>
              have HE2 := Lib.hid (HEB.out (anyBad_mem (List.mem_of_getElem? HMI.out) HR.out))
              go_wp2_with fail
              refine (r17Right mi.t mi.a mi.c mi.b _).mono ?_
              rintro e w6 ⟨rfl, hb6⟩
              rw [HR.out]
              have HJ6 := Lib.hid (HJK.out.next hb6)
              clear hb6 d0 d1 d2 c0 c1
              obtain ⟨d0, d1, d2⟩ := HJ6.out.cells
              go_wp2_with (refine wpList_store_abs rfl 88 (.tmp 8) (.tmp 49) rfl (w.heap.size + 1) #[.int .i64 x.base, .int .i64 x.term, .slice a ms.length c] rfl rfl 88 _ HJ6.out.r1 infoRLine rfl (by simp [Value.oneCell']) ?_; intro W5 hrow5 hoth5 hb5 hs5)
              (try rw [Exit.noGoto_ret])
              refine bodyPost_ret (results_row_tmp2 rfl _ _ (w.heap.size + 1) 88 _ (0, 0) _ rfl hrow5 Try.underlying88 rfl infoRLine) rfl ?_
              exact HJ6.out.same H.out hb5 js E 0 false HE2.out
            | true =>
              have HAN := Lib.hid (anyBad_take_succ HMI.out HAK.out HR.out)
              go_wp2_with fail
              refine (r17Right mi.t mi.a mi.c mi.b _).mono ?_
              rintro e w6 ⟨rfl, hb6⟩
              rw [HR.out]
              have HJ6 := Lib.hid (HJK.out.next hb6)
              clear hb6 d0 d1 d2 c0 c1
              go_wp2
              go_roundw
              case rel => exact ⟨k + 1, by go_num, by omega, HAN.out, HJ6.out⟩
              case measure => simp [intOf]; omega
          · have hkn : k = js.length := by omega
            subst hkn
            have HNB := Lib.hid (show anyBad js = false by have h9 := HAK.out; rwa [List.take_length] at h9)
            have HE4 := Lib.hid (HE3.out HNB.out)
            clear hkl hk
            clear d0 d1 d2
            go_wp2_with fail
            obtain ⟨w7, rfl⟩ : ∃ w7 : World, w7 = wr := ⟨_, rfl⟩
            go_loopw [12] (fun kv wr => ∃ k : Nat, kv = .int .i64 k ∧ k ≤ js.length ∧ prev + (k : Int) ≤ L ∧ x.diff (prev + 1) (js.map MItem.it) = x.diff (prev + 1 + (k : Int)) ((js.drop k).map MItem.it) ∧ JB w x a ms.length c wr) (fun kv _ => js.length - (intOf kv).toNat)
            case atStart => exact ⟨0, rfl, by omega, by simpa using hpl, by simp, HJK.out⟩
            case round =>
              obtain ⟨k, rfl, hk, hub, hdf, hjk⟩ := hrel
              have HDF := Lib.hid hdf
              have HJK := Lib.hid hjk
              clear hdf hjk
              by_cases hkl : k < js.length
              · obtain ⟨mi, hmi⟩ : ∃ mi, js[k]? = some mi := ⟨_, List.getElem?_eq_getElem hkl⟩
                have hmem : mi ∈ js := List.mem_of_getElem? hmi
                have hmt : 0 ≤ mi.t := ((rightI_iff _).1 (anyBad_get HNB.out hmem)).1
                have HMI := Lib.hid hmi
                obtain ⟨b, o, hja, hb, k0, k1⟩ := HJ.out.cell hmi
                have c0 : wr.cell? ⟨b, o + k * 2, none⟩ = some (.int .i64 mi.t) := (HJK.out.bel.cell (p := ⟨b, o + k * 2, none⟩) hb).trans k0
                have HS := Lib.hid (show RJS w.heap.size x a ms.length c b (o + k * 2) mi.t wr from ⟨HJK.out.r0, HJK.out.cells.1, HJK.out.cells.2.2, c0⟩)
                have tk : decide ((k : Int) < (js.length : Int)) = true := by simpa using hkl
                have hk0 : (0 : Int) ≤ (k : Int) := by omega
                have hk1 : (k : Int) < (js.length : Int) := by omega
                have HSTEP := Lib.hid (show (prev + 1 + (k : Int) ≤ x.base ∨ x.tm (prev + 1 + (k : Int)) = mi.t) → prev + ((k + 1 : Nat) : Int) ≤ L ∧ x.diff (prev + 1) (js.map MItem.it) = x.diff (prev + 1 + ((k + 1 : Nat) : Int)) ((js.drop (k + 1)).map MItem.it) from fun h9 => by
                  constructor
                  · rcases h9 with h9 | h9
                    · omega
                    · have h10 := (hg.tm_ge (prev + 1 + (k : Int))).1 (by omega)
                      rw [HL.out] at h10
                      omega
                  · have e9 : js[k] = mi := by have h10 := HMI.out; rw [List.getElem?_eq_getElem hkl] at h10; injection h10
                    rw [HDF.out, List.drop_eq_getElem_cons hkl, e9, List.map_cons, PLine.diff_step (by simp) (by simpa using h9)]
                    rw [show prev + 1 + (k : Int) + 1 = prev + 1 + ((k + 1 : Nat) : Int) by omega]
                    rfl)
                subst hja
                have hwr := HJK.out.sz
                clear k0 k1 hmi hmem c0
                by_cases hA : prev + 1 + (k : Int) ≤ x.base
                · have tA : decide (prev + 1 + (k : Int) ≤ x.base) = true := by simpa using hA
                  have HNX := Lib.hid (HSTEP.out (.inl hA))
                  clear hA
                  go_wp2_with fail
                  refine wp_region_any (by kernel_rfl) ?_
                  refine wpAny_of_held (S := RJS w.heap.size x a ms.length c b (o + k * 2) mi.t) _ _ _ _ ?_
                  have hS0 : RJS w.heap.size x a ms.length c b (o + k * 2) mi.t wr.drew := HS.out.keep (N := wr.heap.size) (Below.refl _ _).drew (by omega) (by omega)
                  refine heldTake 0 60 rfl rfl (by kernel_rfl) (by kernel_rfl) (by kernel_rfl) (fun _ _ _ h => h) hS0 (.inl ⟨by rfl, by intro w' hS; obtain ⟨s1, s2, s3, s4⟩ := hS; go_simp; (try rfl)⟩) ?_
                  simp only [List.set_cons_zero, List.set_cons_succ]
                  refine heldTake 1 61 rfl rfl (by kernel_rfl) (by kernel_rfl) (by kernel_rfl) (fun _ _ _ h => h) hS0 (.inl ⟨by rfl, by intro w' hS; obtain ⟨s1, s2, s3, s4⟩ := hS; go_simp; (try rfl)⟩) ?_
                  simp only [List.set_cons_zero, List.set_cons_succ]
                  refine heldTake 2 62 rfl rfl (by kernel_rfl) (by kernel_rfl) (by kernel_rfl) (fun _ _ _ h => h) hS0 (.inl ⟨by rfl, by intro w' hS; obtain ⟨s1, s2, s3, s4⟩ := hS; go_simp; (try rfl)⟩) ?_
                  simp only [List.set_cons_zero, List.set_cons_succ]
                  refine heldTake 3 63 rfl rfl (by kernel_rfl) (by kernel_rfl) (by kernel_rfl) (fun _ _ _ h => h) hS0 (.inl ⟨by rfl, by intro w' hS; obtain ⟨s1, s2, s3, s4⟩ := hS; go_simp; (try rfl)⟩) ?_
                  simp only [List.set_cons_zero, List.set_cons_succ]
                  refine heldTake 4 64 rfl rfl (by kernel_rfl) (by kernel_rfl) (by kernel_rfl) (fun _ _ _ h => h) hS0 (.inl ⟨by rfl, by intro w' hS; obtain ⟨s1, s2, s3, s4⟩ := hS; go_simp; (try rfl)⟩) ?_
                  simp only [List.set_cons_zero, List.set_cons_succ]
                  refine heldTake 5 65 rfl rfl (by kernel_rfl) (by kernel_rfl) (by kernel_rfl) (fun _ _ _ h => h) hS0 (.inr ⟨by rfl, rfl⟩) ?_
                  simp only [List.set_cons_zero, List.set_cons_succ]
                  refine heldTake 6 66 rfl rfl (by kernel_rfl) (by kernel_rfl) (by kernel_rfl) (fun _ _ _ h => h) hS0 (.inr ⟨by rfl, rfl⟩) ?_
                  simp only [List.set_cons_zero, List.set_cons_succ]
                  refine heldTake 7 67 rfl rfl (by kernel_rfl) (by kernel_rfl) (by kernel_rfl) (fun _ _ _ h => h) hS0 (.inr ⟨by rfl, rfl⟩) ?_
                  simp only [List.set_cons_zero, List.set_cons_succ]
                  refine heldTake 8 68 rfl rfl (by kernel_rfl) (by kernel_rfl) (by kernel_rfl) (fun _ _ _ h => h) hS0 (.inr ⟨by rfl, rfl⟩) ?_
                  simp only [List.set_cons_zero, List.set_cons_succ]
                  refine heldTake 9 69 rfl rfl (by kernel_rfl) (by kernel_rfl) (by kernel_rfl) (fun _ _ _ h => h) hS0 (.inr ⟨by rfl, rfl⟩) ?_
                  simp only [List.set_cons_zero, List.set_cons_succ]
                  refine heldTake 10 70 rfl rfl (by kernel_rfl) (by kernel_rfl) (by kernel_rfl) (fun _ _ _ h => h) hS0 (.inr ⟨by rfl, rfl⟩) ?_
                  simp only [List.set_cons_zero, List.set_cons_succ]
                  refine heldTake 11 71 rfl rfl (by kernel_rfl) (by kernel_rfl) (by kernel_rfl) (fun _ _ _ h => h) hS0 (.inr ⟨by rfl, rfl⟩) ?_
                  simp only [List.set_cons_zero, List.set_cons_succ]
                  refine heldTake 12 72 rfl rfl (by kernel_rfl) (by kernel_rfl) (by kernel_rfl) (fun _ _ _ h => h) hS0 (.inr ⟨by rfl, rfl⟩) ?_
                  simp only [List.set_cons_zero, List.set_cons_succ]
                  refine heldTake 13 73 rfl rfl (by kernel_rfl) (by kernel_rfl) (by kernel_rfl) (fun _ _ _ h => h) hS0 (.inr ⟨by rfl, rfl⟩) ?_
                  simp only [List.set_cons_zero, List.set_cons_succ]
                  refine heldTake 14 74 rfl rfl (by kernel_rfl) (by kernel_rfl) (by kernel_rfl) (fun _ _ _ h => h) hS0 (.inl ⟨by rfl, by intro w' hS; obtain ⟨s1, s2, s3, s4⟩ := hS; go_simp; (try rfl)⟩) ?_
                  simp only [List.set_cons_zero, List.set_cons_succ]
                  refine wpAnyH_done (by kernel_rfl) ?_ _
                  clear hS0
                  have HJD := Lib.hid (HJK.out.next (show Below wr.heap.size wr wr.drew from (Below.refl _ _).drew))
                  go_wp2
                  go_roundw
                  case rel => exact ⟨k + 1, by go_num, by omega, HNX.out.1, HNX.out.2, HJD.out⟩
                  case measure => simp [intOf]; omega
                · have tA : decide (prev + 1 + (k : Int) ≤ x.base) = false := by simpa using hA
                  obtain ⟨T2, hT2⟩ : ∃ T2, x.tm (prev + 1 + (k : Int)) = T2 := ⟨_, rfl⟩
                  have HT2 := Lib.hid hT2
                  by_cases hB : T2 = mi.t
                  · have tB : (T2 == mi.t) = true := by simpa using hB
                    have HNX := Lib.hid (HSTEP.out (.inr (hT2.trans hB)))
                    clear hA hB hT2
                    go_wp2_with fail
                    refine wp_region_any (by kernel_rfl) ?_
                    refine wpAny_of_held (S := RJS w.heap.size x a ms.length c b (o + k * 2) mi.t) _ _ _ _ ?_
                    have hS0 : RJS w.heap.size x a ms.length c b (o + k * 2) mi.t wr.drew := HS.out.keep (N := wr.heap.size) (Below.refl _ _).drew (by omega) (by omega)
                    refine heldTake 0 60 rfl rfl (by kernel_rfl) (by kernel_rfl) (by kernel_rfl) (fun _ _ _ h => h) hS0 (.inl ⟨by rfl, by intro w' hS; obtain ⟨s1, s2, s3, s4⟩ := hS; go_simp; (try rfl)⟩) ?_
                    simp only [List.set_cons_zero, List.set_cons_succ]
                    refine heldTake 1 61 rfl rfl (by kernel_rfl) (by kernel_rfl) (by kernel_rfl) (fun _ _ _ h => h) hS0 (.inl ⟨by rfl, by intro w' hS; obtain ⟨s1, s2, s3, s4⟩ := hS; go_simp; (try rfl)⟩) ?_
                    simp only [List.set_cons_zero, List.set_cons_succ]
                    refine heldTake 2 62 rfl rfl (by kernel_rfl) (by kernel_rfl) (by kernel_rfl) (fun _ _ _ h => h) hS0 (.inl ⟨by rfl, by intro w' hS; obtain ⟨s1, s2, s3, s4⟩ := hS; go_simp; (try rfl)⟩) ?_
                    simp only [List.set_cons_zero, List.set_cons_succ]
                    refine heldTake 3 63 rfl rfl (by kernel_rfl) (by kernel_rfl) (by kernel_rfl) (fun _ _ _ h => h) hS0 (.inl ⟨by rfl, by intro w' hS; obtain ⟨s1, s2, s3, s4⟩ := hS; go_simp; (try rfl)⟩) ?_
                    simp only [List.set_cons_zero, List.set_cons_succ]
                    refine heldTake 4 64 rfl rfl (by kernel_rfl) (by kernel_rfl) (by kernel_rfl) (fun _ _ _ h => h) hS0 (.inl ⟨by rfl, by intro w' hS; obtain ⟨s1, s2, s3, s4⟩ := hS; go_simp; (try rfl)⟩) ?_
                    simp only [List.set_cons_zero, List.set_cons_succ]
                    refine heldTake 5 65 rfl rfl (by kernel_rfl) (by kernel_rfl) (by kernel_rfl) (fun _ _ _ h => h) hS0 (yieldsIf_load_is (by rfl) 88 (.tmp 4) rfl w.heap.size rfl 88 #[.int .i64 x.base, .int .i64 x.term, .slice a ms.length c] _ (fun _ h => h.r0) Try.underlying88 rfl infoRLine) ?_
                    simp only [List.set_cons_zero, List.set_cons_succ]
                    refine heldTake 6 66 rfl rfl (by kernel_rfl) (by kernel_rfl) (by kernel_rfl) (fun _ _ _ h => h) hS0 (.inl ⟨by rfl, by intro w' hS; obtain ⟨s1, s2, s3, s4⟩ := hS; go_simp; (try rfl)⟩) ?_
                    simp only [List.set_cons_zero, List.set_cons_succ]
                    refine heldTake 8 68 rfl rfl (by kernel_rfl) (by kernel_rfl) (by kernel_rfl) (fun _ _ _ h => h) hS0 (.inl ⟨by rfl, by intro w' hS; obtain ⟨s1, s2, s3, s4⟩ := hS; go_simp; (try rfl)⟩) ?_
                    simp only [List.set_cons_zero, List.set_cons_succ]
                    refine heldTake 9 69 rfl rfl (by kernel_rfl) (by kernel_rfl) (by kernel_rfl) (fun _ _ _ h => h) hS0 (.inl ⟨by rfl, by intro w' hS; obtain ⟨s1, s2, s3, s4⟩ := hS; go_simp; (try rfl)⟩) ?_
                    simp only [List.set_cons_zero, List.set_cons_succ]
                    refine heldTake 10 70 rfl rfl (by kernel_rfl) (by kernel_rfl) (by kernel_rfl) (fun _ _ _ h => h) hS0 (.inl ⟨by rfl, by intro w' hS; obtain ⟨s1, s2, s3, s4⟩ := hS; go_simp; (try rfl)⟩) ?_
                    simp only [List.set_cons_zero, List.set_cons_succ]
                    refine heldTake 11 71 rfl rfl (by kernel_rfl) (by kernel_rfl) (by kernel_rfl) (fun _ _ _ h => h) hS0 (.inl ⟨by rfl, by intro w' hS; obtain ⟨s1, s2, s3, s4⟩ := hS; go_simp; (try rfl)⟩) ?_
                    simp only [List.set_cons_zero, List.set_cons_succ]
                    refine heldTake 12 72 rfl rfl (by kernel_rfl) (by kernel_rfl) (by kernel_rfl) (fun _ _ _ h => h) hS0 (.inl ⟨by rfl, by intro w' hS; obtain ⟨s1, s2, s3, s4⟩ := hS; go_simp; (try rfl)⟩) ?_
                    simp only [List.set_cons_zero, List.set_cons_succ]
                    refine heldOne 7 (by kernel_rfl) rfl (by rfl) ?_
                    clear hS0
                    go_simp
                    have hdr : Below wr.heap.size wr wr.drew := (Below.refl _ _).drew
                    refine (r17At x hg a c ms (prev + 1 + (k : Int)) _ ((H.out.below (HJK.out.next hdr).bel (Nat.le_refl _)).mono (HJK.out.next hdr).bel.size)).mono ?_
                    rintro e w9 ⟨rfl, hb9⟩
                    rw [HT2.out]
                    have HJ9 := Lib.hid ((HJK.out.next hdr).next hb9)
                    have hS9 := HS.out.keep (hdr.trans hb9) (by omega) (by omega)
                    have HS9 := Lib.hid hS9
                    refine ⟨hS9, ?_⟩
                    clear hb9 hdr
                    refine heldTake 13 73 rfl rfl (by kernel_rfl) (by kernel_rfl) (by kernel_rfl) (fun _ _ _ h => h) hS9 (.inl ⟨by rfl, by intro w' hS; obtain ⟨s1, s2, s3, s4⟩ := hS; go_simp; (try rfl)⟩) ?_
                    simp only [List.set_cons_zero, List.set_cons_succ]
                    refine heldTake 14 74 rfl rfl (by kernel_rfl) (by kernel_rfl) (by kernel_rfl) (fun _ _ _ h => h) hS9 (.inl ⟨by rfl, by intro w' hS; obtain ⟨s1, s2, s3, s4⟩ := hS; go_simp; (try rfl)⟩) ?_
                    simp only [List.set_cons_zero, List.set_cons_succ]
                    refine wpAnyH_done (by kernel_rfl) ?_ _
                    clear hS9
                    go_wp2
                    go_roundw
                    case rel => exact ⟨k + 1, by go_num, by omega, HNX.out.1, HNX.out.2, HJ9.out⟩
                    case measure => simp [intOf]; omega
                  · have tB : (T2 == mi.t) = false := by simpa using hB
                    have HD2 := Lib.hid (show x.diff (prev + 1) (js.map MItem.it) = some (prev + 1 + (k : Int), (js.drop k).map MItem.it) from by
                      rw [HDF.out]
                      refine PLine.diff_stop (by simp; omega) ?_
                      have e9 : js[k] = mi := by have h10 := HMI.out; rw [List.getElem?_eq_getElem hkl] at h10; injection h10
                      rw [List.drop_eq_getElem_cons hkl, e9]
                      simp only [List.map_cons, List.getD_cons_zero]
                      rw [hT2]
                      intro h9
                      rcases h9 with h9 | h9
                      · exact hA h9
                      · exact hB h9)
                    obtain ⟨kp, hkp⟩ : ∃ kp : Nat, prev + 1 + (k : Int) - x.base - 1 = (kp : Int) := ⟨(prev + 1 + (k : Int) - x.base - 1).toNat, by omega⟩
                    have hlb9 := HLB.out
                    have hkm : kp ≤ ms.length := by omega
                    have hmc := H.out.its.sl.hle
                    have hkc : kp ≤ c := by omega
                    have HKM := Lib.hid hkm
                    have HKC := Lib.hid hkc
                    obtain ⟨n2, hn2⟩ : ∃ n2, n2 = js.length - k := ⟨_, rfl⟩
                    have HN2 := Lib.hid hn2
                    have hn2b : n2 ≤ 100000 := by omega
                    obtain ⟨f, hf⟩ : ∃ f, fitsB x ((kp : Int) + (n2 : Int)) = f := ⟨_, rfl⟩
                    have HF := Lib.hid hf
                    have HE5 := Lib.hid (show E = if fitsB x ((kp : Int) + (n2 : Int)) = true then (⟨x.base, x.term, x.l.take kp ++ (js.drop k).map MItem.it⟩, prev + 1 + (k : Int), true) else (x, 0, false) from by
                      rw [HE4.out, HD2.out]
                      simp only [List.length_map, List.length_drop]
                      rw [hkp, ← hn2, show ((kp : Int)).toNat = kp by omega]
                      (try rfl))
                    have s1 : IntKind.i64.wrap (prev + 1 + (k : Int) - x.base) = prev + 1 + (k : Int) - x.base := IntWalk.i64_in _ (by omega)
                    have wK : IntKind.i64.wrap (kp : Int) = kp := IntWalk.i64_in _ (by omega)
                    have hK0 : (0 : Int) ≤ (kp : Int) := by omega
                    have hK1 : (kp : Int) ≤ (c : Int) := by omega
                    have wk2 : IntKind.i64.wrap (k : Int) = k := IntWalk.i64_in _ (by omega)
                    have hk2 : (k : Int) ≤ (js.length : Int) := by omega
                    obtain ⟨A2, hA2⟩ : ∃ A2, (if jc = k then some (⟨b, o, none⟩ : Addr) else some ⟨b, o + k * 2, none⟩) = A2 := ⟨_, rfl⟩
                    have HSJ := Lib.hid (show ItemsAt w w.heap.size A2 n2 (jc - k) (js.drop k) from by
                      have h9 := HJ.out.from_ (k := k) (by omega)
                      rw [← hA2, hn2]
                      have e9 : (if jc = k then some (⟨b, o, none⟩ : Addr) else some ⟨b, o + k * 2, none⟩) = (if jc = k then some (⟨b, o, none⟩ : Addr) else (some (⟨b, o, none⟩ : Addr)).map (·.add (k * 2))) := by split <;> simp [Addr.add_lit]
                      rw [e9]
                      exact h9)
                    have HSU := Lib.hid (show SlAt w w.heap.size 2 a kp c (cellsM (ms.take kp)) from by
                      have h9 := H.out.its.sl.upto (k := kp) (m := c) hkm (by omega) (Nat.le_refl _)
                      rwa [cellsM_take] at h9)
                    clear hA hB hT2 hf hlb9 hmc hkm hn2 tA
                    have tA : decide (prev + 1 + (k : Int) ≤ x.base) = false := by simp; omega
                    go_wp2_with fail
                    refine wp_region_any (by kernel_rfl) ?_
                    refine wpAny_of_held (S := RJS w.heap.size x a ms.length c b (o + k * 2) mi.t) _ _ _ _ ?_
                    have hS0 : RJS w.heap.size x a ms.length c b (o + k * 2) mi.t wr.drew := HS.out.keep (N := wr.heap.size) (Below.refl _ _).drew (by omega) (by omega)
                    refine heldTake 0 60 rfl rfl (by kernel_rfl) (by kernel_rfl) (by kernel_rfl) (fun _ _ _ h => h) hS0 (.inl ⟨by rfl, by intro w' hS; obtain ⟨s1, s2, s3, s4⟩ := hS; go_simp; (try rfl)⟩) ?_
                    simp only [List.set_cons_zero, List.set_cons_succ]
                    refine heldTake 1 61 rfl rfl (by kernel_rfl) (by kernel_rfl) (by kernel_rfl) (fun _ _ _ h => h) hS0 (.inl ⟨by rfl, by intro w' hS; obtain ⟨s1, s2, s3, s4⟩ := hS; go_simp; (try rfl)⟩) ?_
                    simp only [List.set_cons_zero, List.set_cons_succ]
                    refine heldTake 2 62 rfl rfl (by kernel_rfl) (by kernel_rfl) (by kernel_rfl) (fun _ _ _ h => h) hS0 (.inl ⟨by rfl, by intro w' hS; obtain ⟨s1, s2, s3, s4⟩ := hS; go_simp; (try rfl)⟩) ?_
                    simp only [List.set_cons_zero, List.set_cons_succ]
                    refine heldTake 3 63 rfl rfl (by kernel_rfl) (by kernel_rfl) (by kernel_rfl) (fun _ _ _ h => h) hS0 (.inl ⟨by rfl, by intro w' hS; obtain ⟨s1, s2, s3, s4⟩ := hS; go_simp; (try rfl)⟩) ?_
                    simp only [List.set_cons_zero, List.set_cons_succ]
                    refine heldTake 4 64 rfl rfl (by kernel_rfl) (by kernel_rfl) (by kernel_rfl) (fun _ _ _ h => h) hS0 (.inl ⟨by rfl, by intro w' hS; obtain ⟨s1, s2, s3, s4⟩ := hS; go_simp; (try rfl)⟩) ?_
                    simp only [List.set_cons_zero, List.set_cons_succ]
                    refine heldTake 5 65 rfl rfl (by kernel_rfl) (by kernel_rfl) (by kernel_rfl) (fun _ _ _ h => h) hS0 (yieldsIf_load_is (by rfl) 88 (.tmp 4) rfl w.heap.size rfl 88 #[.int .i64 x.base, .int .i64 x.term, .slice a ms.length c] _ (fun _ h => h.r0) Try.underlying88 rfl infoRLine) ?_
                    simp only [List.set_cons_zero, List.set_cons_succ]
                    refine heldTake 6 66 rfl rfl (by kernel_rfl) (by kernel_rfl) (by kernel_rfl) (fun _ _ _ h => h) hS0 (.inl ⟨by rfl, by intro w' hS; obtain ⟨s1, s2, s3, s4⟩ := hS; go_simp; (try rfl)⟩) ?_
                    simp only [List.set_cons_zero, List.set_cons_succ]
                    refine heldTake 8 68 rfl rfl (by kernel_rfl) (by kernel_rfl) (by kernel_rfl) (fun _ _ _ h => h) hS0 (.inl ⟨by rfl, by intro w' hS; obtain ⟨s1, s2, s3, s4⟩ := hS; go_simp; (try rfl)⟩) ?_
                    simp only [List.set_cons_zero, List.set_cons_succ]
                    refine heldTake 9 69 rfl rfl (by kernel_rfl) (by kernel_rfl) (by kernel_rfl) (fun _ _ _ h => h) hS0 (.inl ⟨by rfl, by intro w' hS; obtain ⟨s1, s2, s3, s4⟩ := hS; go_simp; (try rfl)⟩) ?_
                    simp only [List.set_cons_zero, List.set_cons_succ]
                    refine heldTake 10 70 rfl rfl (by kernel_rfl) (by kernel_rfl) (by kernel_rfl) (fun _ _ _ h => h) hS0 (.inl ⟨by rfl, by intro w' hS; obtain ⟨s1, s2, s3, s4⟩ := hS; go_simp; (try rfl)⟩) ?_
                    simp only [List.set_cons_zero, List.set_cons_succ]
                    refine heldTake 11 71 rfl rfl (by kernel_rfl) (by kernel_rfl) (by kernel_rfl) (fun _ _ _ h => h) hS0 (.inl ⟨by rfl, by intro w' hS; obtain ⟨s1, s2, s3, s4⟩ := hS; go_simp; (try rfl)⟩) ?_
                    simp only [List.set_cons_zero, List.set_cons_succ]
                    refine heldTake 12 72 rfl rfl (by kernel_rfl) (by kernel_rfl) (by kernel_rfl) (fun _ _ _ h => h) hS0 (.inl ⟨by rfl, by intro w' hS; obtain ⟨s1, s2, s3, s4⟩ := hS; go_simp; (try rfl)⟩) ?_
                    simp only [List.set_cons_zero, List.set_cons_succ]
                    refine heldOne 7 (by kernel_rfl) rfl (by rfl) ?_
                    clear hS0
                    go_simp
                    have hdr : Below wr.heap.size wr wr.drew := (Below.refl _ _).drew
                    refine (r17At x hg a c ms (prev + 1 + (k : Int)) _ ((H.out.below (HJK.out.next hdr).bel (Nat.le_refl _)).mono (HJK.out.next hdr).bel.size)).mono ?_
                    rintro e w9 ⟨rfl, hb9⟩
                    rw [HT2.out]
                    have HJ9 := Lib.hid ((HJK.out.next hdr).next hb9)
                    have hS9 := HS.out.keep (hdr.trans hb9) (by omega) (by omega)
                    have HS9 := Lib.hid hS9
                    refine ⟨hS9, ?_⟩
                    clear hb9 hdr
                    refine heldTake 13 73 rfl rfl (by kernel_rfl) (by kernel_rfl) (by kernel_rfl) (fun _ _ _ h => h) hS9 (.inl ⟨by rfl, by intro w' hS; obtain ⟨s1, s2, s3, s4⟩ := hS; go_simp; (try rfl)⟩) ?_
                    simp only [List.set_cons_zero, List.set_cons_succ]
                    refine heldTake 14 74 rfl rfl (by kernel_rfl) (by kernel_rfl) (by kernel_rfl) (fun _ _ _ h => h) hS9 (.inl ⟨by rfl, by intro w' hS; obtain ⟨s1, s2, s3, s4⟩ := hS; go_simp; (try rfl)⟩) ?_
                    simp only [List.set_cons_zero, List.set_cons_succ]
                    refine wpAnyH_done (by kernel_rfl) ?_ _
                    clear hS9
                    clear hwr HSTEP
                    go_wp2_with fail
                    refine wp_region_any (by kernel_rfl) ?_
                    refine wpAny_of_held (S := RJS w.heap.size x a ms.length c b (o + k * 2) mi.t) _ _ _ _ ?_
                    obtain ⟨X, hX⟩ : ∃ X, X = w9.drew := ⟨_, rfl⟩
                    refine (show wpAnyH _ _ _ _ _ _ _ _ w9.drew from ?_)
                    rw [← hX]
                    have hs9 := HJ9.out.sz
                    have BX := Lib.hid (show Below w9.heap.size w9 X by rw [hX]; exact (Below.refl _ _).drew)
                    have qX : w9.heap.size ≤ X.heap.size := BX.out.size
                    have hSX := HS9.out.keep BX.out (by omega) (by omega)
                    clear hX
                    refine heldTake 1 76 rfl rfl (by kernel_rfl) (by kernel_rfl) (by kernel_rfl) (fun _ _ _ h => h) hSX (.inl ⟨by rfl, by intro w' hS; obtain ⟨s1, s2, s3, s4⟩ := hS; go_simp; (try rfl)⟩) ?_
                    simp only [List.set_cons_zero, List.set_cons_succ]
                    refine heldTake 2 77 rfl rfl (by kernel_rfl) (by kernel_rfl) (by kernel_rfl) (fun _ _ _ h => h) hSX (.inl ⟨by rfl, by intro w' hS; obtain ⟨s1, s2, s3, s4⟩ := hS; go_simp; (try rfl)⟩) ?_
                    simp only [List.set_cons_zero, List.set_cons_succ]
                    refine heldTake 3 78 rfl rfl (by kernel_rfl) (by kernel_rfl) (by kernel_rfl) (fun _ _ _ h => h) hSX (.inl ⟨by rfl, by intro w' hS; obtain ⟨s1, s2, s3, s4⟩ := hS; go_simp; (try rfl)⟩) ?_
                    simp only [List.set_cons_zero, List.set_cons_succ]
                    refine heldTake 4 79 rfl rfl (by kernel_rfl) (by kernel_rfl) (by kernel_rfl) (fun _ _ _ h => h) hSX (.inl ⟨by rfl, by intro w' hS; obtain ⟨s1, s2, s3, s4⟩ := hS; go_simp; (try rfl)⟩) ?_
                    simp only [List.set_cons_zero, List.set_cons_succ]
                    refine heldTake 5 80 rfl rfl (by kernel_rfl) (by kernel_rfl) (by kernel_rfl) (fun _ _ _ h => h) hSX (.inl ⟨by rfl, by intro w' hS; obtain ⟨s1, s2, s3, s4⟩ := hS; go_simp; (try rfl)⟩) ?_
                    simp only [List.set_cons_zero, List.set_cons_succ]
                    refine heldTake 6 81 rfl rfl (by kernel_rfl) (by kernel_rfl) (by kernel_rfl) (fun _ _ _ h => h) hSX (.inl ⟨by rfl, by intro w' hS; obtain ⟨s1, s2, s3, s4⟩ := hS; go_simp; (try rfl)⟩) ?_
                    simp only [List.set_cons_zero, List.set_cons_succ]
                    refine heldTake 7 82 rfl rfl (by kernel_rfl) (by kernel_rfl) (by kernel_rfl) (fun _ _ _ h => h) hSX (.inl ⟨by rfl, by intro w' hS; obtain ⟨s1, s2, s3, s4⟩ := hS; go_simp; (try rfl)⟩) ?_
                    simp only [List.set_cons_zero, List.set_cons_succ]
                    refine heldTake 8 83 rfl rfl (by kernel_rfl) (by kernel_rfl) (by kernel_rfl) (fun _ _ _ h => h) hSX (.inl ⟨by rfl, by intro w' hS; obtain ⟨s1, s2, s3, s4⟩ := hS; go_simp; (try rfl)⟩) ?_
                    simp only [List.set_cons_zero, List.set_cons_succ]
                    refine heldTake 10 85 rfl rfl (by kernel_rfl) (by kernel_rfl) (by kernel_rfl) (fun _ _ _ h => h) hSX (.inl ⟨by rfl, by intro w' hS; obtain ⟨s1, s2, s3, s4⟩ := hS; go_simp; (try rfl)⟩) ?_
                    simp only [List.set_cons_zero, List.set_cons_succ]
                    refine heldTake 11 86 rfl rfl (by kernel_rfl) (by kernel_rfl) (by kernel_rfl) (fun _ _ _ h => h) hSX (.inl ⟨by rfl, by intro w' hS; obtain ⟨s1, s2, s3, s4⟩ := hS; go_simp; (try rfl)⟩) ?_
                    simp only [List.set_cons_zero, List.set_cons_succ]
                    refine heldTake 12 87 rfl rfl (by kernel_rfl) (by kernel_rfl) (by kernel_rfl) (fun _ _ _ h => h) hSX (.inl ⟨by rfl, by intro w' hS; obtain ⟨s1, s2, s3, s4⟩ := hS; go_simp; (try rfl)⟩) ?_
                    simp only [List.set_cons_zero, List.set_cons_succ]
                    clear hSX s1 wK hK0 hK1 wk2 hk2 hA2
                    refine heldOne 0 (by kernel_rfl) rfl (by rfl) ?_
                    go_simp
                    obtain ⟨U1, hU1⟩ : ∃ z, z = X.alloc (.cells #[] 45) := ⟨_, rfl⟩
                    rw [← hU1]
                    have AU1 : Below X.heap.size X U1 := by rw [hU1]; exact (Below.refl _ _).alloc (Nat.le_refl _) _
                    have BU1 := Lib.hid (show Below w9.heap.size w9 U1 from BX.out.trans (AU1.mono qX))
                    have qU1 : w9.heap.size ≤ U1.heap.size := BU1.out.size
                    have E1 := Lib.hid (show U1.ownsRow w9.heap.size 45 2 (.slice (some ⟨X.heap.size, 0, none⟩) 0 0) 0 [] by rw [hU1]; exact ownsRow_nilT X w9.heap.size 2 qX 45)
                    clear hU1 AU1
                    refine ⟨HS9.out.keep BU1.out (by omega) (by omega), ?_⟩
                    refine heldOne 9 (by kernel_rfl) rfl (by rfl) ?_
                    refine wp_append_sl U1 (.tmp 75) (.tmp 83) 49 rfl w9.heap.size 45 i0 (.agg #[.int .i64 0, .slice none 0 0]) 2 32 Try.underlying49 hi hz0 hz1 hz2 rfl (by decide) (.slice (some ⟨X.heap.size, 0, none⟩) 0 0) 0 [] rfl E1.out U1.heap.size a kp c (cellsM (ms.take kp)) rfl ((HSU.out.below (HJ9.out.bel.trans (BU1.out.mono HJ9.out.bel.size)) (Nat.le_refl _)).mono (by omega)) (cellsM_one _) (by unfold maxLen; have := HKM.out; omega) (by have := HKM.out; omega) qU1 ?_
                    intro a2 c2 U2 o2 g2 _
                    simp only [Nat.zero_add, List.nil_append] at o2 ⊢
                    have BU2 := Lib.hid (show Below w9.heap.size w9 U2 from BU1.out.grown g2 qU1 (fun k hk => (own_lt E1.out hk).1))
                    have qU2 : w9.heap.size ≤ U2.heap.size := BU2.out.size
                    have O2 := Lib.hid o2
                    clear o2 g2
                    refine ⟨HS9.out.keep BU2.out (by omega) (by omega), ?_⟩
                    refine heldOne 13 (by kernel_rfl) rfl (by rfl) ?_
                    refine wp_append_sl U2 (.tmp 84) (.tmp 87) 49 rfl w9.heap.size 45 i0 (.agg #[.int .i64 0, .slice none 0 0]) 2 32 Try.underlying49 hi hz0 hz1 hz2 rfl (by decide) (.slice a2 kp c2) kp (cellsM (ms.take kp)) rfl O2.out U2.heap.size A2 n2 (jc - k) (cellsM (js.drop k)) (by rw [HN2.out]; rfl) ((HSJ.out.below (HJ9.out.bel.trans (BU2.out.mono HJ9.out.bel.size)) (Nat.le_refl _)).mono (by omega)).sl (cellsM_one _) (by unfold maxLen; have := HKM.out; omega) (by have := HKM.out; omega) qU2 ?_
                    intro a3 c3 U3 o3 g3 _
                    have BU3 := Lib.hid (show Below w9.heap.size w9 U3 from BU2.out.grown g3 qU2 (fun k hk => (own_lt O2.out hk).1))
                    have qU3 : w9.heap.size ≤ U3.heap.size := BU3.out.size
                    have O3 := Lib.hid o3
                    clear o3 g3
                    have hSU3 := HS9.out.keep BU3.out (by omega) (by omega)
                    refine ⟨hSU3, ?_⟩
                    go_simp
                    refine heldTake 14 14 rfl rfl (by kernel_rfl) (by kernel_rfl) (by kernel_rfl) (fun _ _ _ h => h) hSU3 (.inl ⟨by rfl, by intro w' hS; obtain ⟨s1, s2, s3, s4⟩ := hS; go_simp; (try rfl)⟩) ?_
                    simp only [List.set_cons_zero, List.set_cons_succ]
                    refine wpAnyH_done (by kernel_rfl) ?_ _
                    clear hSU3
                    have HJU := Lib.hid (HJ9.out.next BU3.out)
                    obtain ⟨d0, d1, d2⟩ := HJU.out.cells
                    go_wp2_with fail
                    refine (r17Fits x hb0 hb1 a ms.length c _ _).mono ?_
                    rintro e w10 ⟨rfl, hb10⟩
                    have hf9 := HF.out
                    rw [HF.out]
                    have HJ10 := Lib.hid (HJU.out.next hb10)
                    have HO10 := Lib.hid (own_below' O3.out hb10)
                    have BU10 := Lib.hid (BU3.out.trans (hb10.mono qU3))
                    clear hb10 d0 d1 d2 hf9
                    cases f with
                    | false =>
                      have HE2 := Lib.hid (show E = (x, 0, false) from by rw [HE5.out, HF.out]; rfl)
                      obtain ⟨d0, d1, d2⟩ := HJ10.out.cells
                      go_wp2_with (refine wpList_store_abs rfl 88 (.tmp 8) (.tmp 94) rfl (w.heap.size + 1) #[.int .i64 x.base, .int .i64 x.term, .slice a ms.length c] rfl rfl 88 _ HJ10.out.r1 infoRLine rfl (by simp [Value.oneCell']) ?_; intro W5 hrow5 hoth5 hb5 hs5)
                      (try rw [Exit.noGoto_ret])
                      refine bodyPost_ret (results_row_tmp2 rfl _ _ (w.heap.size + 1) 88 _ (0, 0) _ rfl hrow5 Try.underlying88 rfl infoRLine) rfl ?_
                      exact HJ10.out.same H.out hb5 js E 0 false HE2.out
                    | true =>
                      have HE2 := Lib.hid (show E = (⟨x.base, x.term, x.l.take kp ++ (js.drop k).map MItem.it⟩, prev + 1 + (k : Int), true) from by rw [HE5.out, HF.out]; rfl)
                      obtain ⟨d0, d1, d2⟩ := HJ10.out.cells
                      have f2 : w10.frozen? ⟨w.heap.size, 2, none⟩ = false := by simp [World.frozen?, HJ10.out.r0]
                      have HR1S := Lib.hid (show (w10.setCell ⟨w.heap.size, 2, none⟩ (.slice a3 (kp + n2) c3)).heap[w.heap.size + 1]? = some (.cells #[.int .i64 0, .int .i64 0, .slice none 0 0] 88 (0, 0)) from (Below.heap_setCell _ _ _ _ (by simp)).trans HJ10.out.r1)
                      have HOV := Lib.hid (World.ownsRow.kept HO10.out (w' := w10.setCell ⟨w.heap.size, 2, none⟩ (.slice a3 (kp + n2) c3)) (row := some w.heap.size) ⟨rfl, rfl, rfl, by simp, fun k hk hne => Below.heap_setCell _ _ _ k (fun e => hne (by rw [e]))⟩ (.inr fun e => by have h9 := (own_lt HO10.out e).1; omega))
                      have HBV := Lib.hid (show Below w.heap.size w (w10.setCell ⟨w.heap.size, 2, none⟩ (.slice a3 (kp + n2) c3)) from HJ10.out.bel.trans ⟨rfl, rfl, rfl, by simp, fun k hk => Below.heap_setCell _ _ _ k (by show k ≠ w.heap.size; omega)⟩)
                      go_wp2_with (refine wpList_store_abs rfl 88 (.tmp 8) (.tmp 97) rfl (w.heap.size + 1) #[.int .i64 x.base, .int .i64 x.term, .slice a3 (kp + n2) c3] rfl rfl 88 _ HR1S.out infoRLine rfl (by simp [Value.oneCell']) ?_; intro W5 hrow5 hoth5 hb5 hs5)
                      (try rw [Exit.noGoto_ret])
                      refine bodyPost_ret (results_row_tmp2 rfl _ _ (w.heap.size + 1) 88 _ (0, 0) _ rfl hrow5 Try.underlying88 rfl infoRLine) rfl ?_
                      have HOF := World.ownsRow.kept HOV.out (w' := W5) (row := some (w.heap.size + 1)) ⟨hb5.os, hb5.tape, hb5.output, by omega, fun k hk hne => hoth5 k (fun e => hne (by rw [e]))⟩ (.inr fun e => by have h9 := (own_lt HOV.out e).1; omega)
                      have HBF := HBV.out.trans (hb5.mono (show w.heap.size ≤ w.heap.size + 1 by omega))
                      have hkm9 := HKM.out
                      have hn9 := HN2.out
                      unfold RJoinTo
                      rw [HE2.out]
                      have hlen9 : (ms.take kp ++ js.drop k).length = kp + n2 := by simp; omega
                      have hits9 := itemsOf HOF (ms := ms.take kp ++ js.drop k) hlen9 (by rw [cellsM_append]) fun m hm => by
                        simp only [List.mem_append] at hm
                        rcases hm with hm | hm
                        · exact ((H.out.its.bs m (List.mem_of_mem_take hm)).below HBF (Nat.le_refl _)).mono HBF.size
                        · exact ((HJ.out.bs m (List.mem_of_mem_drop hm)).below HBF (Nat.le_refl _)).mono HBF.size
                      exact ⟨a3, c3, ms.take kp ++ js.drop k, by rw [hlen9]; rfl, ⟨hits9, by rw [List.map_append, List.map_take, H.out.eq]⟩, HBF, Fresh.own HOF (by have := HJ9.out.bel.size; omega), fun m hm => by
                        simp only [List.mem_append] at hm
                        rcases hm with hm | hm
                        · exact .inl (List.mem_of_mem_take hm)
                        · exact .inr (List.mem_of_mem_drop hm)⟩
              · have hkn : k = js.length := by omega
                subst hkn
                have HE2 := Lib.hid (show E = (x, 0, true) from by rw [HE4.out, HDF.out, List.drop_length]; rfl)
                clear hkl hk
                obtain ⟨d0, d1, d2⟩ := HJK.out.cells
                go_wp2_with (refine wpList_store_abs rfl 88 (.tmp 8) (.tmp 99) rfl (w.heap.size + 1) #[.int .i64 x.base, .int .i64 x.term, .slice a ms.length c] rfl rfl 88 _ HJK.out.r1 infoRLine rfl (by simp [Value.oneCell']) ?_; intro W5 hrow5 hoth5 hb5 hs5)
                (try rw [Exit.noGoto_ret])
                refine bodyPost_ret (results_row_tmp2 rfl _ _ (w.heap.size + 1) 88 _ (0, 0) _ rfl hrow5 Try.underlying88 rfl infoRLine) rfl ?_
                exact HJK.out.same H.out hb5 js E 0 true HE2.out
end Go.Proofs.Ytogcnfhmcpkdcaa

namespace Go.Proofs.Ytogcnfhmcpkdcaa
open Go.RowKit
set_option linter.unusedVariables false
set_option linter.unusedSimpArgs false

theorem ne_types2 : (88 : Nat) ≠ 167 ∧ (88 : Nat) ≠ 45 ∧ (88 : Nat) ≠ 5 := by decide

theorem own_moved {w w' : World} {base e size n : Nat} {v : Value} {xs : List Value} (h : w.ownsRow base e size v n xs) (hb : ∀ g cur, v.ownBlock = some g → w.heap[g]? = some (.cells cur e (0, 0)) → w'.heap[g]? = w.heap[g]?) : w'.ownsRow base e size v n xs := by
  refine ⟨h.1, ?_⟩
  rcases h.2 with ⟨e, hn⟩ | ⟨g, cap, cur, e, h1, h2, h3, h4, h5, h6⟩
  · exact .inl ⟨e, hn⟩
  · exact .inr ⟨g, cap, cur, e, h1, (hb g cur (by rw [e]; rfl) h2).trans h2, h3, h4, h5, h6⟩

theorem LineAt.mono {w : World} {base B p : Nat} {x : PLine} {la : Option Addr} {lc : Nat} {ms : List MItem} (h : LnAt w base p x la lc ms) (hB : B ≤ base) : LnAt w B p x la lc ms :=
  ⟨h.row, World.ownsRow.mono h.own hB, h.its, h.bs, by have := h.pb; omega⟩

/-- a line behind a turning of blocks that are not its own -/
theorem LineAt.moved {w w' : World} {base p : Nat} {x : PLine} {la : Option Addr} {lc : Nat} {ms : List MItem} (h : LnAt w base p x la lc ms) (hs : w.heap.size ≤ w'.heap.size)
    (hp : ∀ cs, w.heap[p]? = some (.cells cs 167 (0, 0)) → w'.heap[p]? = w.heap[p]?) (ho : ∀ g cur, (Value.slice la ms.length lc).ownBlock = some g → w.heap[g]? = some (.cells cur 45 (0, 0)) → w'.heap[g]? = w.heap[g]?)
    (hu : ∀ k cs fr, k < w.heap.size → w.heap[k]? = some (.cells cs 5 fr) → w'.heap[k]? = w.heap[k]?) : LnAt w' base p x la lc ms :=
  ⟨(hp _ h.row).trans h.row, own_moved h.own ho, h.its, fun m hm => (h.bs m hm).grown (T := 5) hu hs, h.pb⟩

theorem ty_ne {w : World} {k : Nat} {cs cs' : Array Value} {T T' : TypeId} {fr fr' : Nat × Nat} (h : w.heap[k]? = some (.cells cs T fr)) (h' : w.heap[k]? = some (.cells cs' T' fr')) (hne : (T : Nat) ≠ T') : False := by
  rw [h] at h'
  injection h' with h'
  injection h' with _ e _
  exact hne e

/-- a line behind a turning of another one -/
theorem LineAt.other {w w' : World} {base p base2 p2 : Nat} {x x2 : PLine} {la la2 : Option Addr} {lc lc2 : Nat} {ms ms2 : List MItem} (h : LnAt w base p x la lc ms) (h2 : LnAt w base2 p2 x2 la2 lc2 ms2)
    (hne : p2 ≠ p) (hno : ∀ g, (Value.slice la2 ms2.length lc2).ownBlock = some g → (Value.slice la ms.length lc).ownBlock ≠ some g) (ht : Turned p (Value.slice la ms.length lc).ownBlock w w') : LnAt w' base2 p2 x2 la2 lc2 ms2 := by
  refine h2.moved ht.size (fun cs hc => ?_) (fun g cur hg hc => ?_) (fun k cs fr hk hc => ?_)
  · refine ht.block p2 h2.lt hne (fun e => ?_)
    obtain ⟨cur, h9⟩ := own_block h.own e.symm
    exact ty_ne h9 hc ne_types.1
  · refine ht.block g (Array.getElem?_eq_some_iff.1 hc).1 (fun e => ?_) (fun e => hno g hg e.symm)
    subst e
    exact ty_ne hc h.row ne_types.1
  · refine ht.block k hk (fun e => ?_) (fun e => ?_)
    · subst e
      exact ty_ne h.row hc ne_types.2.2
    · obtain ⟨cur, h9⟩ := own_block h.own e.symm
      exact ty_ne h9 hc ne_types.2.1

/-- the program's line X at block q, the document's line Y in the box g; what the document's line holds lies apart -/
structure PS (w0 : World) (g : Nat) (wr : World) (q : Nat) (X : PLine) (la : Option Addr) (lc : Nat) (ms : List MItem) (Y : PLine) (ra : Option Addr) (rc : Nat) (rs : List MItem) : Prop where
  ln : LnAt wr w0.heap.size q X la lc ms
  rx : RAt wr wr.heap.size Y ra rc rs
  ap : ∀ ad, ra = some ad → ad.block ≠ q ∧ (Value.slice la ms.length lc).ownBlock ≠ some ad.block ∧ ad.block ≠ g ∧ ad.block < wr.heap.size
  inp : ∀ m ∈ rs, m.Bs wr w0.heap.size
  bel : Below w0.heap.size w0 wr
  row : wr.heap[g]? = some (.cells #[.int .i64 Y.base, .int .i64 Y.term, .slice ra rs.length rc] 88 (0, 0))
  gb : w0.heap.size ≤ g

/-- blocks that are no line's and no items' stay -/
def RowsKept (wr W : World) : Prop := wr.heap.size ≤ W.heap.size ∧ ∀ (k : Nat) (cs : Array Value) (T : TypeId), wr.heap[k]? = some (Obj.cells cs T (0, 0)) → (T : Nat) ≠ 167 → (T : Nat) ≠ 45 → W.heap[k]? = some (Obj.cells cs T (0, 0))
theorem RowsKept.of {wr W : World} {base q : Nat} {X : PLine} {la : Option Addr} {lc : Nat} {ms : List MItem} (h : LnAt wr base q X la lc ms) (ht : Turned q (Value.slice la ms.length lc).ownBlock wr W) : RowsKept wr W := by
  refine ⟨ht.size, fun k cs T hk h1 h2 => (ht.block k (Array.getElem?_eq_some_iff.1 hk).1 (fun e => ?_) (fun e => ?_)).trans hk⟩
  · rw [e] at hk; exact ty_ne hk h.row h1
  · obtain ⟨cur, h9⟩ := own_block h.own e.symm
    exact ty_ne hk h9 h2

section
variable {w0 : World} {g : Nat} {wr : World} {q : Nat} {X : PLine} {la : Option Addr} {lc : Nat} {ms : List MItem} {Y : PLine} {ra : Option Addr} {rc : Nat} {rs : List MItem}

theorem PS.below {W : World} (h : PS w0 g wr q X la lc ms Y ra rc rs) (hb : Below wr.heap.size wr W) : PS w0 g W q X la lc ms Y ra rc rs :=
  have hs := h.bel.size
  ⟨h.ln.below hb, (h.rx.below hb (Nat.le_refl _)).mono hb.size, fun ad e => let ⟨a1, a2, a3, a4⟩ := h.ap ad e; ⟨a1, a2, a3, Nat.lt_of_lt_of_le a4 hb.size⟩, fun m hm => (h.inp m hm).below hb hs, h.bel.trans (hb.mono hs), (hb.block _ (Array.getElem?_eq_some_iff.1 h.row).1).trans h.row, h.gb⟩

theorem PS.glt (h : PS w0 g wr q X la lc ms Y ra rc rs) : g < wr.heap.size := (Array.getElem?_eq_some_iff.1 h.row).1

/-- a slice that a call handed out, behind it -/
theorem PS.fresh (h : PS w0 g wr q X la lc ms Y ra rc rs) {W : World} (hs : wr.heap.size ≤ W.heap.size) {ra' : Option Addr} (hf : Fresh wr W ra ra') : ∀ ad, ra' = some ad → ad.block ≠ q ∧ (Value.slice la ms.length lc).ownBlock ≠ some ad.block ∧ ad.block ≠ g ∧ ad.block < W.heap.size := by
  rcases hf with rfl | hf
  · exact fun ad e => let ⟨a1, a2, a3, a4⟩ := h.ap ad e; ⟨a1, a2, a3, Nat.lt_of_lt_of_le a4 hs⟩
  · intro ad e
    obtain ⟨h1, h4⟩ := hf ad e
    have h2 := h.ln.lt
    have h3 := h.glt
    refine ⟨by omega, fun e9 => ?_, by omega, h4⟩
    have := (own_lt h.ln.own e9).2
    omega

/-- another line is laid into the document's box -/
theorem PS.setRef (h : PS w0 g wr q X la lc ms Y ra rc rs) {Y' : PLine} {ra' : Option Addr} {rc' : Nat} {rs' : List MItem} (hr : RAt wr wr.heap.size Y' ra' rc' rs')
    (hap : ∀ ad, ra' = some ad → ad.block ≠ q ∧ (Value.slice la ms.length lc).ownBlock ≠ some ad.block ∧ ad.block ≠ g ∧ ad.block < wr.heap.size) (hin : ∀ m ∈ rs', m.Bs wr w0.heap.size)
    {W : World} (hrow : W.heap[g]? = some (.cells #[.int .i64 Y'.base, .int .i64 Y'.term, .slice ra' rs'.length rc'] 88 (0, 0))) (hoth : ∀ k, k ≠ g → W.heap[k]? = wr.heap[k]?) (hb : Below g wr W) (hs : W.heap.size = wr.heap.size) :
    PS w0 g W q X la lc ms Y' ra' rc' rs' := by
  have hgb := h.gb
  have hb0 : Below w0.heap.size wr W := hb.mono hgb
  refine ⟨h.ln.moved (by omega) (fun cs hc => hoth _ fun e => ?_) (fun k cur hg hc => hoth _ fun e => ?_) (fun k cs fr hk hc => hoth _ fun e => ?_), ⟨⟨?_, ?_⟩, hr.eq⟩, fun ad e => by rw [hs]; exact hap ad e, fun m hm => (hin m hm).below hb0 (Nat.le_refl _), h.bel.trans hb0, hrow, hgb⟩
  · rw [e] at hc; exact ty_ne h.row hc ne_types2.1
  · rw [e] at hc; exact ty_ne h.row hc ne_types2.2.1
  · rw [e] at hc; exact ty_ne h.row hc ne_types2.2.2
  · have h9 := hr.its.sl
    refine ⟨h9.hlen, h9.hle, h9.hmax, h9.hnil, fun hp => ?_⟩
    obtain ⟨b, o, e, hb9, hc⟩ := h9.hat hp
    have hne := (hap _ e).2.2.1
    exact ⟨b, o, e, by omega, fun i hi => (World.cell?_of_block (a := ⟨b, o + i, none⟩) (hoth b hne)).trans (hc i hi)⟩
  · intro m hm
    have := h.bel.size
    exact ((hin m hm).below hb0 (Nat.le_refl _)).mono (by omega)

/-- the program's line is turned -/
theorem PS.turn (h : PS w0 g wr q X la lc ms Y ra rc rs) {W : World} {X' : PLine} (hl : LineTo w0.heap.size q X' (Value.slice la ms.length lc).ownBlock wr W) : ∃ la' lc' ms', PS w0 g W q X' la' lc' ms' Y ra rc rs ∧ RowsKept wr W := by
  obtain ⟨la', lc', ms', hn, ht, ho⟩ := hl
  have hsz := h.bel.size
  have hb : Below w0.heap.size wr W := ht.below h.ln.pb (fun k hk => (own_lt h.ln.own hk).1) hsz
  refine ⟨la', lc', ms', ⟨hn, ⟨⟨?_, fun m hm => ((h.inp m hm).below hb (Nat.le_refl _)).mono (by have := ht.size; omega)⟩, h.rx.eq⟩, fun ad e => ?_, fun m hm => (h.inp m hm).below hb (Nat.le_refl _), h.bel.trans hb, ?_, h.gb⟩, RowsKept.of h.ln ht⟩
  · have h9 := h.rx.its.sl
    refine ⟨h9.hlen, h9.hle, h9.hmax, h9.hnil, fun hp => ?_⟩
    obtain ⟨b, o, e, hb9, hc⟩ := h9.hat hp
    obtain ⟨n1, n2, -, -⟩ := h.ap _ e
    exact ⟨b, o, e, Nat.lt_of_lt_of_le hb9 ht.size, fun i hi => (World.cell?_of_block (a := ⟨b, o + i, none⟩) (ht.block b hb9 n1 (fun e9 => n2 e9.symm))).trans (hc i hi)⟩
  · obtain ⟨n1, n2, n3, n4⟩ := h.ap ad e
    refine ⟨n1, fun e9 => ?_, n3, Nat.lt_of_lt_of_le n4 ht.size⟩
    rcases ho _ e9 with h8 | h8
    · exact n2 h8
    · omega
  · refine (ht.block g h.glt (fun e => ?_) (fun e => ?_)).trans h.row
    · have h9 := h.row; rw [e] at h9; exact ty_ne h9 h.ln.row ne_types2.1
    · obtain ⟨cur, h9⟩ := own_block h.ln.own e.symm
      exact ty_ne h.row h9 ne_types2.2.1

/-- a copy goes on; the old line stands by -/
structure PSO (w0 : World) (g : Nat) (wr : World) (q : Nat) (X : PLine) (la : Option Addr) (lc : Nat) (ms : List MItem) (Y : PLine) (ra : Option Addr) (rc : Nat) (rs : List MItem) (qo : Nat) (Xo : PLine) (lao : Option Addr) (lco : Nat) (mso : List MItem) : Prop where
  ps : PS w0 g wr q X la lc ms Y ra rc rs
  old : LnAt wr w0.heap.size qo Xo lao lco mso
  ne : q ≠ qo
  no : ∀ k, (Value.slice la ms.length lc).ownBlock = some k → (Value.slice lao mso.length lco).ownBlock ≠ some k
  apo : ∀ ad, ra = some ad → ad.block ≠ qo ∧ (Value.slice lao mso.length lco).ownBlock ≠ some ad.block

theorem PS.copied (h : PS w0 g wr q X la lc ms Y ra rc rs) {W : World} {q' : Nat} {la' : Option Addr} {lc' : Nat} (hn : LnAt W wr.heap.size q' X la' lc' ms) (hb : Below wr.heap.size wr W) (hq : wr.heap.size ≤ q') :
    PSO w0 g W q' X la' lc' ms Y ra rc rs q X la lc ms := by
  have hs := h.bel.size
  have h1 := h.below hb
  have hlt := h.ln.lt
  refine ⟨⟨hn.mono hs, h1.rx, fun ad e => ?_, h1.inp, h1.bel, h1.row, h1.gb⟩, h1.ln, by omega, fun k e => ?_, fun ad e => let ⟨a1, a2, _, _⟩ := h.ap ad e; ⟨a1, a2⟩⟩
  · obtain ⟨a1, a2, a3, a4⟩ := h.ap ad e
    refine ⟨by omega, fun e9 => ?_, a3, Nat.lt_of_lt_of_le a4 hb.size⟩
    have := (own_lt hn.own e9).1
    omega
  · intro e9
    have h8 := (own_lt hn.own e).1
    have h7 := (own_lt h.ln.own e9).2
    omega

theorem PSO.turn {qo : Nat} {Xo : PLine} {lao : Option Addr} {lco : Nat} {mso : List MItem} (h : PSO w0 g wr q X la lc ms Y ra rc rs qo Xo lao lco mso) {W : World} {Xo' : PLine} (hl : LineTo w0.heap.size qo Xo' (Value.slice lao mso.length lco).ownBlock wr W) :
    ∃ lao' lco' mso', PSO w0 g W q X la lc ms Y ra rc rs qo Xo' lao' lco' mso' ∧ RowsKept wr W := by
  obtain ⟨lao', lco', mso', hn, ht, ho⟩ := hl
  have hsz := h.ps.bel.size
  have hb : Below w0.heap.size wr W := ht.below h.old.pb (fun k hk => (own_lt h.old.own hk).1) hsz
  have hrk := RowsKept.of h.old ht
  refine ⟨lao', lco', mso', ⟨⟨h.old.other h.ps.ln h.ne h.no ht, ⟨⟨?_, fun m hm => ((h.ps.inp m hm).below hb (Nat.le_refl _)).mono (by have := ht.size; omega)⟩, h.ps.rx.eq⟩, fun ad e => ?_, fun m hm => (h.ps.inp m hm).below hb (Nat.le_refl _), h.ps.bel.trans hb, hrk.2 _ _ _ h.ps.row ne_types2.1 ne_types2.2.1, h.ps.gb⟩, hn, h.ne, fun k e e9 => ?_, fun ad e => ?_⟩, hrk⟩
  · have h9 := h.ps.rx.its.sl
    refine ⟨h9.hlen, h9.hle, h9.hmax, h9.hnil, fun hp => ?_⟩
    obtain ⟨b, o, e, hb9, hc⟩ := h9.hat hp
    obtain ⟨n1, n2⟩ := h.apo _ e
    exact ⟨b, o, e, Nat.lt_of_lt_of_le hb9 ht.size, fun i hi => (World.cell?_of_block (a := ⟨b, o + i, none⟩) (ht.block b hb9 n1 (fun e9 => n2 e9.symm))).trans (hc i hi)⟩
  · obtain ⟨a1, a2, a3, a4⟩ := h.ps.ap ad e
    exact ⟨a1, a2, a3, Nat.lt_of_lt_of_le a4 ht.size⟩
  · rcases ho _ e9 with h8 | h8
    · exact h.no _ e h8
    · have := (own_lt h.ps.ln.own e).2
      omega
  · obtain ⟨a1, a2⟩ := h.apo ad e
    refine ⟨a1, fun e9 => ?_⟩
    rcases ho _ e9 with h8 | h8
    · exact a2 h8
    · have := (h.ps.ap ad e).2.2.2
      omega
end
end Go.Proofs.Ytogcnfhmcpkdcaa
