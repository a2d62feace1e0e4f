/-
  Contracts of letter's within, isPlace, used, of the closure of Right, and of the reference's in.
  Contract of letter.Right.
  Contract of the reference's Right of letters.
-/
import Derived.Test.YtogcnfhmcpkdcaaGreatLetLaw
import Derived.Test.YtogcnfhmcpkdcaaGreatLineM9
import Derived.Test.YtogcnfhmcpkdcaaGreatLetM1
namespace Go.Proofs.YtogcnfhmcpkdcaaGreat
open Go.RowKit
set_option linter.unusedVariables false
set_option linter.unusedSimpArgs false
theorem infoLetter : (Tryz.prog.info? 32).map (·.size) = some 8 := by kernel_rfl
theorem infoInt8 : (Tryz.prog.info? 3).map (·.size) = some 1 := by kernel_rfl
theorem infoBool8 : (Tryz.prog.info? 4).map (·.size) = some 1 := by kernel_rfl
theorem infoItems9 : (Tryz.prog.info? 30).map (·.size) = some 1 := by kernel_rfl
theorem infoBytes8 : (Tryz.prog.info? 27).map (·.size) = some 1 := by kernel_rfl
theorem letWithin (n hi : Int) (w : World) :
  Calls Tryz.prog 73 #[.int .i64 n, .int .i64 hi] w fun e w' => e = .returned (.bool (inZ n hi)) ∧ w = w' := by
 obtain ⟨x, y, h1, h2⟩ : ∃ x y : Bool, decide (0 ≤ n) = x ∧ decide (n ≤ hi) = y := ⟨_, _, rfl, rfl⟩
 have e1 : inZ n hi = (x && y) := by rw [← h1, ← h2]; rfl
 rw [e1];have HE := Hh e1;clear e1;cases x
 ·go_enter Tryz.func73, Tryz.ntmps73
  go_wp2;go_ret;exact ⟨rfl, rfl⟩
 ·cases y
  all_goals
   go_enter Tryz.func73, Tryz.ntmps73
   go_wp2;go_ret;exact ⟨rfl, rfl⟩
theorem letIsPlace (n m : Int) (w : World) : Calls Tryz.prog 74 #[.int .i64 n, .int .i64 m] w fun e w' => e = .returned (.bool (inM n && inM m)) ∧ w = w' := by
 obtain ⟨x, h1⟩ : ∃ x : Bool, inZ n 1099511627776 = x := ⟨_, rfl⟩
 obtain ⟨y, h2⟩ : ∃ y : Bool, inZ m 1099511627776 = y := ⟨_, rfl⟩
 have e1 : (inM n && inM m) = (x && y) := by rw [← h1, ← h2]; rfl
 rw [e1];have HX := Hh h1;have HY := Hh h2;clear e1 h1 h2;cases x
 ·go_enter Tryz.func74, Tryz.ntmps74
  go_wp2_with fail;refine (letWithin _ _ _).mono ?_;rintro e w1 ⟨rfl, rfl⟩;rw [HX.out];go_wp2;go_ret;exact ⟨rfl, rfl⟩
 ·cases y
  all_goals
   go_enter Tryz.func74, Tryz.ntmps74
   go_wp2_with fail;refine (letWithin _ _ _).mono ?_;rintro e w1 ⟨rfl, rfl⟩;rw [HX.out];go_wp2_with fail;refine (letWithin _ _ _).mono ?_;rintro e w1 ⟨rfl, rfl⟩;rw [HY.out];go_wp2;go_ret;exact ⟨rfl, rfl⟩
theorem letRight1 (t : Int) (a : Option Addr) (c : Nat) (b : List UInt8) (w : World) :
  Calls Tryz.prog 76 #[.agg #[.int .i64 t, .slice a b.length c]] w fun e w' => e = .returned (.bool (!rightI (t, b))) ∧ Below w.heap.size w w' := by
 obtain ⟨x, h1⟩ : ∃ x : Bool, inZ t 1099511627776 = x := ⟨_, rfl⟩
 obtain ⟨y, h2⟩ : ∃ y : Bool, decide ((8192 : Int) < (b.length : Int)) = y := ⟨_, rfl⟩
 have h2' : decide (b.length ≤ 8192) = !y := by
  rw [← h2, Bool.eq_iff_iff]
  simp
  omega
 have e1 : (!rightI (t, b)) = (!(x && !y)) := by rw [← h1, ← h2', inZ, rightI, Bool.and_assoc]
 rw [e1];have HE := Hh e1;have H1 := Hh h1;have HB := Hh ((Below.refl _ w).alloc (Nat.le_refl _) (.cells #[.int .i64 t, .slice a b.length c] 40));clear e1 h1 h2';cases x
 ·go_enter Tryz.func76, Tryz.ntmps76
  go_wp2_with fail;refine (letWithin _ _ _).mono ?_;rintro e w1 ⟨rfl, rfl⟩;rw [H1.out];go_wp2;go_ret;exact ⟨rfl, HB.out⟩
 ·cases y
  all_goals
   go_enter Tryz.func76, Tryz.ntmps76
   go_wp2_with fail;refine (letWithin _ _ _).mono ?_;rintro e w1 ⟨rfl, rfl⟩;rw [H1.out];go_wp2;go_ret;exact ⟨rfl, HB.out⟩
structure LB8 (g : Nat) (x : PLet) (ia : Option Addr) (n ic : Nat) (ba : Option Addr) (bc : Nat) (W : World) : Prop where
 g0 : W.cell? ⟨g, 0, none⟩ = some (.int .i64 x.k)
 g1 : W.cell? ⟨g, 1, none⟩ = some (.int .i64 x.t)
 g2 : W.cell? ⟨g, 2, none⟩ = some (.int .i64 x.a)
 g3 : W.cell? ⟨g, 3, none⟩ = some (.int .i64 x.u)
 g4 : W.cell? ⟨g, 4, none⟩ = some (.int .i64 x.o)
 g5 : W.cell? ⟨g, 5, none⟩ = some (.bool x.y)
 g6 : W.cell? ⟨g, 6, none⟩ = some (.slice ia n ic)
 g7 : W.cell? ⟨g, 7, none⟩ = some (.slice ba x.b.length bc)
theorem LB8.of {g : Nat} {x : PLet} {ia : Option Addr} {n ic : Nat} {ba : Option Addr} {bc : Nat} {W : World} (h : W.heap[g]? = some (.cells (lcell x ia n ic ba bc) 32 (0, 0))) : LB8 g x ia n ic ba bc W :=
 let ⟨h0, h1, h2, h3, h4, h5, h6, h7⟩ := letCells h
 ⟨h0, h1, h2, h3, h4, h5, h6, h7⟩
theorem LB8.set {g : Nat} {x : PLet} {ia : Option Addr} {n ic : Nat} {ba : Option Addr} {bc : Nat} {W : World} (h : LB8 g x ia n ic ba bc W) {u : Nat} (hu : u ≠ g) (o : Nat) (v : Value) : LB8 g x ia n ic ba bc (W.setCell ⟨u, o, none⟩ v) := by
 have he : ∀ i, (W.setCell ⟨u, o, none⟩ v).cell? ⟨g, i, none⟩ = W.cell? ⟨g, i, none⟩ := fun i => World.cell?_of_block (a := ⟨g, i, none⟩) (Below.heap_setCell _ _ _ g (fun e => hu e.symm))
 exact ⟨(he 0).trans h.g0, (he 1).trans h.g1, (he 2).trans h.g2, (he 3).trans h.g3, (he 4).trans h.g4, (he 5).trans h.g5, (he 6).trans h.g6, (he 7).trans h.g7⟩
def UsedTo (x : PLet) (w : World) (e : Ending) (w' : World) : Prop := ∃ ia' ic' ms' ba' bc', e = .returned (.agg (lcell (usedL x) ia' (List.length ms') ic' ba' bc')) ∧ LetAt w' w'.heap.size (usedL x) ia' ic' ms' ba' bc' ∧ Below w.heap.size w w' ∧ List.length ms' ≤ 1000000
theorem itemsNil (w : World) (B : Nat) : ItemsAt w B none ([] : List MItem).length 0 [] := ⟨⟨by simp [cellsM], by simp, by simp [maxLen], fun _ => rfl, fun hp => by simp [cellsM] at hp⟩, by simp⟩
theorem bsNil9 (w : World) (B : Nat) : BsAt w B none ([] : List UInt8).length 0 [] := BsAt.zero _ _ _ _ (by simp [maxLen]) (fun _ => rfl)
set_option maxRecDepth 100000 in
set_option maxHeartbeats 2000000 in
theorem letterUsed (x : PLet) (ia : Option Addr) (ic : Nat) (ms : List MItem) (ba : Option Addr) (bc : Nat) (hn : ms.length ≤ 1000000) (w : World) (h : LetAt w w.heap.size x ia ic ms ba bc) :
  Calls Tryz.prog 78 #[.agg (lcell x ia ms.length ic ba bc)] w (UsedTo x w) := by
 have H := Hh h;obtain ⟨zc, hzc⟩ : ∃ zc : Array Value, zc = #[.int .i64 0, .int .i64 0, .int .i64 0, .int .i64 0, .int .i64 0, .bool false, .slice none 0 0, .slice none 0 0] := ⟨_, rfl⟩
 obtain ⟨W1, hW1⟩ : ∃ W1, W1 = ((w.alloc (.cells (lcell x ia ms.length ic ba bc) 32)).alloc (.cells #[.int .i64 0, .int .i64 0, .int .i64 0, .int .i64 0, .int .i64 0, .bool false, .slice none 0 0, .slice none 0 0] 32)).alloc (.cells #[.int .i64 x.k, .int .i64 x.t, .int .i64 0, .int .i64 0, .int .i64 0, .bool false, .slice none 0 0, .slice none 0 0] 32) := ⟨_, rfl⟩
 have HW1 := Hh hW1;have hs1 : W1.heap.size = w.heap.size + 3 := by rw [hW1]; simp
 have hb1 : Below w.heap.size w W1 := by rw [hW1]; exact (((Below.refl _ _).alloc (Nat.le_refl _) _).alloc (by simp) _).alloc (by simp; omega) _
 have HR0 := Hh (show W1.heap[w.heap.size]? = some (.cells (lcell x ia ms.length ic ba bc) 32 (0, 0)) by
  rw [hW1];exact ((((Below.refl _ _).alloc (Nat.le_refl (w.alloc (.cells (lcell x ia ms.length ic ba bc) 32)).heap.size) _).alloc (by simp) _).block _ (by simp)).trans (heap_alloc_new w _))
 have HR1 := Hh (show W1.heap[w.heap.size + 1]? = some (.cells #[.int .i64 0, .int .i64 0, .int .i64 0, .int .i64 0, .int .i64 0, .bool false, .slice none 0 0, .slice none 0 0] 32 (0, 0)) by
  rw [hW1];refine (((Below.refl _ _).alloc (Nat.le_refl _) _).block (w.heap.size + 1) (by simp)).trans ?_;have h9 := heap_alloc_new (w.alloc (.cells (lcell x ia ms.length ic ba bc) 32)) (.cells #[.int .i64 0, .int .i64 0, .int .i64 0, .int .i64 0, .int .i64 0, .bool false, .slice none 0 0, .slice none 0 0] 32);simpa using h9)
 have HR2 := Hh (show W1.heap[w.heap.size + 2]? = some (.cells #[.int .i64 x.k, .int .i64 x.t, .int .i64 0, .int .i64 0, .int .i64 0, .bool false, .slice none 0 0, .slice none 0 0] 32 (0, 0)) by
  rw [hW1];have h9 := heap_alloc_new ((w.alloc (.cells (lcell x ia ms.length ic ba bc) 32)).alloc (.cells #[.int .i64 0, .int .i64 0, .int .i64 0, .int .i64 0, .int .i64 0, .bool false, .slice none 0 0, .slice none 0 0] 32)) (.cells #[.int .i64 x.k, .int .i64 x.t, .int .i64 0, .int .i64 0, .int .i64 0, .bool false, .slice none 0 0, .slice none 0 0] 32);simpa using h9)
 have HB1 := Hh hb1;clear hW1 hb1 h hzc;by_cases e1 : x.k = 1
 ·have s1 : (x.k == 1) = true := by simpa using e1
  have HU := Hh (show usedL x = ⟨x.k, x.t, x.a, x.u, 0, false, [], []⟩ by simp [usedL, e1]);clear e1;go_enter Tryz.func78, Tryz.ntmps78
  go_wp2_with fail;rw [← HW1.out];refine OpR (S := LB8 w.heap.size x ia ms.length ic ba bc) ?_;obtain ⟨X, hX⟩ : ∃ X, X = W1.drew := ⟨_, rfl⟩
  refine (show wpAnyH _ _ _ _ _ _ _ _ W1.drew from ?_);rw [← hX];have hS0 : LB8 w.heap.size x ia ms.length ic ba bc X := by rw [hX]; exact LB8.of HR0.out
  have bX : Below (w.heap.size + 2) W1 X := by rw [hX]; exact (Below.refl _ _).drew
  have oX : X.heap[w.heap.size + 1]? = some (.cells #[.int .i64 0, .int .i64 0, .int .i64 0, .int .i64 0, .int .i64 0, .bool false, .slice none 0 0, .slice none 0 0] 32 (0, 0)) := by rw [hX]; exact HR1.out
  have r0 : X.heap[w.heap.size + 2]? = some (.cells #[.int .i64 x.k, .int .i64 x.t, .int .i64 0, .int .i64 0, .int .i64 0, .bool false, .slice none 0 0, .slice none 0 0] 32 (0, 0)) := by rw [hX]; exact HR2.out
  clear hX;refine hT 0 13 hS0 ?_;refine hT 1 14 hS0 ?_;refine hT 2 15 hS0 ?_;refine hT 3 16 hS0 ?_;refine hT 4 17 hS0 ?_;refine Op1 5 ?_;refine wp_store_cell 3 (.tmp 17) (.tmp 14) rfl (w.heap.size + 2) 2 (.int .i64 x.a) _ rfl rfl rfl infoInt8 (cell_of_row _ (w.heap.size + 2) 2 _ _ _ r0) (frozen_of_row _ _ _ _ _ r0) ?_;have r1 : (X.setCell ⟨w.heap.size + 2, 2, none⟩ (.int .i64 x.a)).heap[w.heap.size + 2]? = some (.cells #[.int .i64 x.k, .int .i64 x.t, .int .i64 x.a, .int .i64 0, .int .i64 0, .bool false, .slice none 0 0, .slice none 0 0] 32 (0, 0)) := by have h9 := heap_setCell_same X (w.heap.size + 2) 2 _ _ (.int .i64 x.a) r0; simpa using h9
  have hS1 := hS0.set (u := w.heap.size + 2) (by omega) 2 (.int .i64 x.a);obtain ⟨Y1, hY1⟩ : ∃ Y, Y = X.setCell ⟨w.heap.size + 2, 2, none⟩ (.int .i64 x.a) := ⟨_, rfl⟩
  have o1 : Y1.heap[w.heap.size + 1]? = some (.cells #[.int .i64 0, .int .i64 0, .int .i64 0, .int .i64 0, .int .i64 0, .bool false, .slice none 0 0, .slice none 0 0] 32 (0, 0)) := by rw [hY1]; exact (Below.heap_setCell _ _ _ _ (by simp)).trans oX
  have b1 : Below (w.heap.size + 2) X Y1 := by rw [hY1]; exact (Below.refl _ _).setCell (by simp) _
  rw [← hY1] at r1 hS1 ⊢;refine ⟨hS1, ?_⟩;clear hY1;go_simp;refine hT 6 18 hS1 ?_;refine Op1 7 ?_;refine wp_store_cell 3 (.tmp 18) (.tmp 16) rfl (w.heap.size + 2) 3 (.int .i64 x.u) _ rfl rfl rfl infoInt8 (cell_of_row _ (w.heap.size + 2) 3 _ _ _ r1) (frozen_of_row _ _ _ _ _ r1) ?_;have r2 : (Y1.setCell ⟨w.heap.size + 2, 3, none⟩ (.int .i64 x.u)).heap[w.heap.size + 2]? = some (.cells #[.int .i64 x.k, .int .i64 x.t, .int .i64 x.a, .int .i64 x.u, .int .i64 0, .bool false, .slice none 0 0, .slice none 0 0] 32 (0, 0)) := by have h9 := heap_setCell_same Y1 (w.heap.size + 2) 3 _ _ (.int .i64 x.u) r1; simpa using h9
  have hS2 := hS1.set (u := w.heap.size + 2) (by omega) 3 (.int .i64 x.u);obtain ⟨Y2, hY2⟩ : ∃ Y, Y = Y1.setCell ⟨w.heap.size + 2, 3, none⟩ (.int .i64 x.u) := ⟨_, rfl⟩
  have o2 : Y2.heap[w.heap.size + 1]? = some (.cells #[.int .i64 0, .int .i64 0, .int .i64 0, .int .i64 0, .int .i64 0, .bool false, .slice none 0 0, .slice none 0 0] 32 (0, 0)) := by rw [hY2]; exact (Below.heap_setCell _ _ _ _ (by simp)).trans o1
  have b2 : Below (w.heap.size + 2) Y1 Y2 := by rw [hY2]; exact (Below.refl _ _).setCell (by simp) _
  rw [← hY2] at r2 hS2 ⊢;refine ⟨hS2, ?_⟩;clear hY2;refine OpE ?_;have HRU := Hh (show Y2.heap[w.heap.size + 2]? = some (.cells #[.int .i64 x.k, .int .i64 x.t, .int .i64 x.a, .int .i64 x.u, .int .i64 0, .bool false, .slice none 0 0, .slice none 0 0] 32 (0, 0)) from r2);have HRT := Hh (show Y2.heap[w.heap.size + 1]? = some (.cells #[.int .i64 0, .int .i64 0, .int .i64 0, .int .i64 0, .int .i64 0, .bool false, .slice none 0 0, .slice none 0 0] 32 (0, 0)) from o2);have HBR := Hh (show Below w.heap.size w Y2 from HB1.out.trans ((bX.trans (b1.trans b2)).mono (by omega)));clear r0 r1 r2 hS0 hS1 hS2 o1 b1 o2 b2 bX oX;obtain ⟨c0, c1, c2, c3, c4, c5, c6, c7⟩ : Y2.cell? ⟨w.heap.size + 2, 0, none⟩ = some (.int .i64 x.k) ∧ Y2.cell? ⟨w.heap.size + 2, 1, none⟩ = some (.int .i64 x.t) ∧ Y2.cell? ⟨w.heap.size + 2, 2, none⟩ = some (.int .i64 x.a) ∧ Y2.cell? ⟨w.heap.size + 2, 3, none⟩ = some (.int .i64 x.u) ∧ Y2.cell? ⟨w.heap.size + 2, 4, none⟩ = some (.int .i64 0) ∧ Y2.cell? ⟨w.heap.size + 2, 5, none⟩ = some (.bool false) ∧ Y2.cell? ⟨w.heap.size + 2, 6, none⟩ = some (.slice none 0 0) ∧ Y2.cell? ⟨w.heap.size + 2, 7, none⟩ = some (.slice none 0 0) :=
   ⟨cell_of_row Y2 _ 0 _ _ _ HRU.out, cell_of_row Y2 _ 1 _ _ _ HRU.out, cell_of_row Y2 _ 2 _ _ _ HRU.out, cell_of_row Y2 _ 3 _ _ _ HRU.out, cell_of_row Y2 _ 4 _ _ _ HRU.out, cell_of_row Y2 _ 5 _ _ _ HRU.out, cell_of_row Y2 _ 6 _ _ _ HRU.out, cell_of_row Y2 _ 7 _ _ _ HRU.out⟩
  go_wp2_with (refine wpList_store_abs rfl 32 (.tmp 2) (.tmp 60) rfl (w.heap.size + 1) #[.int .i64 x.k, .int .i64 x.t, .int .i64 x.a, .int .i64 x.u, .int .i64 0, .bool false, .slice none 0 0, .slice none 0 0] rfl rfl 32 _ HRT.out infoLetter rfl (by simp [Value.oneCell']) ?_; intro W9 hrow9 hoth9 hb9 hs9);have hbF := HBR.out.trans (hb9.mono (show w.heap.size ≤ w.heap.size + 1 by omega));refine bodyPost_ret (results_cell_row rfl _ _ (w.heap.size + 1) 32 _ (0, 0) _ rfl hrow9 Tryz.underlying32 rfl infoLetter) rfl ?_;unfold UsedTo;rw [HU.out];refine ⟨none, 0, [], none, 0, rfl, ⟨itemsNil _ _, rfl, bsNil9 _ _⟩, hbF, by simp⟩
 ·have n1 : ¬ x.k = 1 := e1;have s1 : (x.k == 1) = false := by simpa using e1
  clear e1;by_cases e2 : x.k = 2
  ·have s2 : (x.k == 2) = true := by simpa using e2
   have HU := Hh (show usedL x = ⟨x.k, x.t, 0, 0, 0, x.y, [], []⟩ by simp [usedL, n1, e2]);clear n1 e2;go_enter Tryz.func78, Tryz.ntmps78
   go_wp2_with fail;have hrF : (((w.alloc (.cells (lcell x ia ms.length ic ba bc) 32)).alloc (.cells #[.int .i64 x.k, .int .i64 x.t, .int .i64 0, .int .i64 0, .int .i64 0, .bool x.y, .slice none 0 0, .slice none 0 0] 32)).alloc (.cells #[.int .i64 x.k, .int .i64 x.t, .int .i64 0, .int .i64 0, .int .i64 0, .bool x.y, .slice none 0 0, .slice none 0 0] 32)).heap[w.heap.size + 1]? = some (.cells #[.int .i64 x.k, .int .i64 x.t, .int .i64 0, .int .i64 0, .int .i64 0, .bool x.y, .slice none 0 0, .slice none 0 0] 32 (0, 0)) := by
    refine (((Below.refl _ _).alloc (Nat.le_refl _) _).block (w.heap.size + 1) (by simp)).trans ?_;have h9 := heap_alloc_new (w.alloc (.cells (lcell x ia ms.length ic ba bc) 32)) (.cells #[.int .i64 x.k, .int .i64 x.t, .int .i64 0, .int .i64 0, .int .i64 0, .bool x.y, .slice none 0 0, .slice none 0 0] 32);simpa using h9
   have hbF : Below w.heap.size w (((w.alloc (.cells (lcell x ia ms.length ic ba bc) 32)).alloc (.cells #[.int .i64 x.k, .int .i64 x.t, .int .i64 0, .int .i64 0, .int .i64 0, .bool x.y, .slice none 0 0, .slice none 0 0] 32)).alloc (.cells #[.int .i64 x.k, .int .i64 x.t, .int .i64 0, .int .i64 0, .int .i64 0, .bool x.y, .slice none 0 0, .slice none 0 0] 32)) := (((Below.refl _ _).alloc (Nat.le_refl _) _).alloc (by simp) _).alloc (by simp; omega) _;refine bodyPost_ret (results_cell_row rfl _ _ (w.heap.size + 1) 32 _ (0, 0) _ rfl hrF Tryz.underlying32 rfl infoLetter) rfl ?_;unfold UsedTo;rw [HU.out];exact ⟨none, 0, [], none, 0, rfl, ⟨itemsNil _ _, rfl, bsNil9 _ _⟩, hbF, by simp⟩
  ·have n2 : ¬ x.k = 2 := e2;have s2 : (x.k == 2) = false := by simpa using e2
   clear e2;by_cases e3 : x.k = 3
   ·have s3 : (x.k == 3) = true := by simpa using e3
    have HU := Hh (show usedL x = ⟨x.k, x.t, x.a, x.u, x.o, false, x.its, []⟩ by simp [usedL, n1, n2, e3]);clear n1 n2 e3;go_enter Tryz.func78, Tryz.ntmps78
    go_wp2_with fail;rw [← HW1.out];refine OpR (S := LB8 w.heap.size x ia ms.length ic ba bc) ?_;obtain ⟨X, hX⟩ : ∃ X, X = W1.drew := ⟨_, rfl⟩
    refine (show wpAnyH _ _ _ _ _ _ _ _ W1.drew from ?_);rw [← hX];have hS0 : LB8 w.heap.size x ia ms.length ic ba bc X := by rw [hX]; exact LB8.of HR0.out
    have bX : Below (w.heap.size + 2) W1 X := by rw [hX]; exact (Below.refl _ _).drew
    have oX : X.heap[w.heap.size + 1]? = some (.cells #[.int .i64 0, .int .i64 0, .int .i64 0, .int .i64 0, .int .i64 0, .bool false, .slice none 0 0, .slice none 0 0] 32 (0, 0)) := by rw [hX]; exact HR1.out
    have r0 : X.heap[w.heap.size + 2]? = some (.cells #[.int .i64 x.k, .int .i64 x.t, .int .i64 0, .int .i64 0, .int .i64 0, .bool false, .slice none 0 0, .slice none 0 0] 32 (0, 0)) := by rw [hX]; exact HR2.out
    clear hX;refine hT 0 26 hS0 ?_;refine hT 1 27 hS0 ?_;refine hT 2 28 hS0 ?_;refine hT 3 29 hS0 ?_;refine hT 4 30 hS0 ?_;refine hT 5 31 hS0 ?_;refine hT 6 32 hS0 ?_;refine hT 7 33 hS0 ?_;refine hT 8 34 hS0 ?_;refine Op1 9 ?_;refine wp_store_cell 3 (.tmp 34) (.tmp 27) rfl (w.heap.size + 2) 2 (.int .i64 x.a) _ rfl rfl rfl infoInt8 (cell_of_row _ (w.heap.size + 2) 2 _ _ _ r0) (frozen_of_row _ _ _ _ _ r0) ?_;have r1 : (X.setCell ⟨w.heap.size + 2, 2, none⟩ (.int .i64 x.a)).heap[w.heap.size + 2]? = some (.cells #[.int .i64 x.k, .int .i64 x.t, .int .i64 x.a, .int .i64 0, .int .i64 0, .bool false, .slice none 0 0, .slice none 0 0] 32 (0, 0)) := by have h9 := heap_setCell_same X (w.heap.size + 2) 2 _ _ (.int .i64 x.a) r0; simpa using h9
    have hS1 := hS0.set (u := w.heap.size + 2) (by omega) 2 (.int .i64 x.a);obtain ⟨Y1, hY1⟩ : ∃ Y, Y = X.setCell ⟨w.heap.size + 2, 2, none⟩ (.int .i64 x.a) := ⟨_, rfl⟩
    have o1 : Y1.heap[w.heap.size + 1]? = some (.cells #[.int .i64 0, .int .i64 0, .int .i64 0, .int .i64 0, .int .i64 0, .bool false, .slice none 0 0, .slice none 0 0] 32 (0, 0)) := by rw [hY1]; exact (Below.heap_setCell _ _ _ _ (by simp)).trans oX
    have b1 : Below (w.heap.size + 2) X Y1 := by rw [hY1]; exact (Below.refl _ _).setCell (by simp) _
    rw [← hY1] at r1 hS1 ⊢;refine ⟨hS1, ?_⟩;clear hY1;go_simp;refine hT 10 35 hS1 ?_;refine Op1 11 ?_;refine wp_store_cell 3 (.tmp 35) (.tmp 29) rfl (w.heap.size + 2) 3 (.int .i64 x.u) _ rfl rfl rfl infoInt8 (cell_of_row _ (w.heap.size + 2) 3 _ _ _ r1) (frozen_of_row _ _ _ _ _ r1) ?_;have r2 : (Y1.setCell ⟨w.heap.size + 2, 3, none⟩ (.int .i64 x.u)).heap[w.heap.size + 2]? = some (.cells #[.int .i64 x.k, .int .i64 x.t, .int .i64 x.a, .int .i64 x.u, .int .i64 0, .bool false, .slice none 0 0, .slice none 0 0] 32 (0, 0)) := by have h9 := heap_setCell_same Y1 (w.heap.size + 2) 3 _ _ (.int .i64 x.u) r1; simpa using h9
    have hS2 := hS1.set (u := w.heap.size + 2) (by omega) 3 (.int .i64 x.u);obtain ⟨Y2, hY2⟩ : ∃ Y, Y = Y1.setCell ⟨w.heap.size + 2, 3, none⟩ (.int .i64 x.u) := ⟨_, rfl⟩
    have o2 : Y2.heap[w.heap.size + 1]? = some (.cells #[.int .i64 0, .int .i64 0, .int .i64 0, .int .i64 0, .int .i64 0, .bool false, .slice none 0 0, .slice none 0 0] 32 (0, 0)) := by rw [hY2]; exact (Below.heap_setCell _ _ _ _ (by simp)).trans o1
    have b2 : Below (w.heap.size + 2) Y1 Y2 := by rw [hY2]; exact (Below.refl _ _).setCell (by simp) _
    rw [← hY2] at r2 hS2 ⊢;refine ⟨hS2, ?_⟩;clear hY2;go_simp;refine hT 12 36 hS2 ?_;refine Op1 13 ?_;refine wp_store_cell 3 (.tmp 36) (.tmp 31) rfl (w.heap.size + 2) 4 (.int .i64 x.o) _ rfl rfl rfl infoInt8 (cell_of_row _ (w.heap.size + 2) 4 _ _ _ r2) (frozen_of_row _ _ _ _ _ r2) ?_;have r3 : (Y2.setCell ⟨w.heap.size + 2, 4, none⟩ (.int .i64 x.o)).heap[w.heap.size + 2]? = some (.cells #[.int .i64 x.k, .int .i64 x.t, .int .i64 x.a, .int .i64 x.u, .int .i64 x.o, .bool false, .slice none 0 0, .slice none 0 0] 32 (0, 0)) := by have h9 := heap_setCell_same Y2 (w.heap.size + 2) 4 _ _ (.int .i64 x.o) r2; simpa using h9
    have hS3 := hS2.set (u := w.heap.size + 2) (by omega) 4 (.int .i64 x.o);obtain ⟨Y3, hY3⟩ : ∃ Y, Y = Y2.setCell ⟨w.heap.size + 2, 4, none⟩ (.int .i64 x.o) := ⟨_, rfl⟩
    have o3 : Y3.heap[w.heap.size + 1]? = some (.cells #[.int .i64 0, .int .i64 0, .int .i64 0, .int .i64 0, .int .i64 0, .bool false, .slice none 0 0, .slice none 0 0] 32 (0, 0)) := by rw [hY3]; exact (Below.heap_setCell _ _ _ _ (by simp)).trans o2
    have b3 : Below (w.heap.size + 2) Y2 Y3 := by rw [hY3]; exact (Below.refl _ _).setCell (by simp) _
    rw [← hY3] at r3 hS3 ⊢;refine ⟨hS3, ?_⟩;clear hY3;go_simp;refine hT 14 37 hS3 ?_;refine Op1 15 ?_;refine wp_store_cell 30 (.tmp 37) (.tmp 33) rfl (w.heap.size + 2) 6 (.slice ia ms.length ic) _ rfl rfl rfl infoItems9 (cell_of_row _ (w.heap.size + 2) 6 _ _ _ r3) (frozen_of_row _ _ _ _ _ r3) ?_;have r4 : (Y3.setCell ⟨w.heap.size + 2, 6, none⟩ (.slice ia ms.length ic)).heap[w.heap.size + 2]? = some (.cells #[.int .i64 x.k, .int .i64 x.t, .int .i64 x.a, .int .i64 x.u, .int .i64 x.o, .bool false, .slice ia ms.length ic, .slice none 0 0] 32 (0, 0)) := by have h9 := heap_setCell_same Y3 (w.heap.size + 2) 6 _ _ (.slice ia ms.length ic) r3; simpa using h9
    have hS4 := hS3.set (u := w.heap.size + 2) (by omega) 6 (.slice ia ms.length ic);obtain ⟨Y4, hY4⟩ : ∃ Y, Y = Y3.setCell ⟨w.heap.size + 2, 6, none⟩ (.slice ia ms.length ic) := ⟨_, rfl⟩
    have o4 : Y4.heap[w.heap.size + 1]? = some (.cells #[.int .i64 0, .int .i64 0, .int .i64 0, .int .i64 0, .int .i64 0, .bool false, .slice none 0 0, .slice none 0 0] 32 (0, 0)) := by rw [hY4]; exact (Below.heap_setCell _ _ _ _ (by simp)).trans o3
    have b4 : Below (w.heap.size + 2) Y3 Y4 := by rw [hY4]; exact (Below.refl _ _).setCell (by simp) _
    rw [← hY4] at r4 hS4 ⊢;refine ⟨hS4, ?_⟩;clear hY4;refine OpE ?_;have HRU := Hh (show Y4.heap[w.heap.size + 2]? = some (.cells #[.int .i64 x.k, .int .i64 x.t, .int .i64 x.a, .int .i64 x.u, .int .i64 x.o, .bool false, .slice ia ms.length ic, .slice none 0 0] 32 (0, 0)) from r4);have HRT := Hh (show Y4.heap[w.heap.size + 1]? = some (.cells #[.int .i64 0, .int .i64 0, .int .i64 0, .int .i64 0, .int .i64 0, .bool false, .slice none 0 0, .slice none 0 0] 32 (0, 0)) from o4);have HBR := Hh (show Below w.heap.size w Y4 from HB1.out.trans ((bX.trans (((b1.trans b2).trans b3).trans b4)).mono (by omega)));clear r0 r1 r2 r3 r4 hS0 hS1 hS2 hS3 hS4 o1 b1 o2 b2 o3 b3 o4 b4 bX oX;obtain ⟨c0, c1, c2, c3, c4, c5, c6, c7⟩ : Y4.cell? ⟨w.heap.size + 2, 0, none⟩ = some (.int .i64 x.k) ∧ Y4.cell? ⟨w.heap.size + 2, 1, none⟩ = some (.int .i64 x.t) ∧ Y4.cell? ⟨w.heap.size + 2, 2, none⟩ = some (.int .i64 x.a) ∧ Y4.cell? ⟨w.heap.size + 2, 3, none⟩ = some (.int .i64 x.u) ∧ Y4.cell? ⟨w.heap.size + 2, 4, none⟩ = some (.int .i64 x.o) ∧ Y4.cell? ⟨w.heap.size + 2, 5, none⟩ = some (.bool false) ∧ Y4.cell? ⟨w.heap.size + 2, 6, none⟩ = some (.slice ia ms.length ic) ∧ Y4.cell? ⟨w.heap.size + 2, 7, none⟩ = some (.slice none 0 0) :=
     ⟨cell_of_row Y4 _ 0 _ _ _ HRU.out, cell_of_row Y4 _ 1 _ _ _ HRU.out, cell_of_row Y4 _ 2 _ _ _ HRU.out, cell_of_row Y4 _ 3 _ _ _ HRU.out, cell_of_row Y4 _ 4 _ _ _ HRU.out, cell_of_row Y4 _ 5 _ _ _ HRU.out, cell_of_row Y4 _ 6 _ _ _ HRU.out, cell_of_row Y4 _ 7 _ _ _ HRU.out⟩
    go_wp2_with (refine wpList_store_abs rfl 32 (.tmp 2) (.tmp 60) rfl (w.heap.size + 1) #[.int .i64 x.k, .int .i64 x.t, .int .i64 x.a, .int .i64 x.u, .int .i64 x.o, .bool false, .slice ia ms.length ic, .slice none 0 0] rfl rfl 32 _ HRT.out infoLetter rfl (by simp [Value.oneCell']) ?_; intro W9 hrow9 hoth9 hb9 hs9);have hbF := HBR.out.trans (hb9.mono (show w.heap.size ≤ w.heap.size + 1 by omega));refine bodyPost_ret (results_cell_row rfl _ _ (w.heap.size + 1) 32 _ (0, 0) _ rfl hrow9 Tryz.underlying32 rfl infoLetter) rfl ?_;unfold UsedTo;rw [HU.out];refine ⟨ia, ic, ms, none, 0, rfl, ⟨(H.out.its.below hbF (Nat.le_refl _)).mono hbF.size, H.out.eq, bsNil9 _ _⟩, hbF, hn⟩
   ·have n3 : ¬ x.k = 3 := e3;have s3 : (x.k == 3) = false := by simpa using e3
    clear e3;by_cases e4 : x.k = 4
    ·have s4 : (x.k == 4) = true := by simpa using e4
     have HU := Hh (show usedL x = ⟨x.k, x.t, x.a, 0, x.o, x.y, [], []⟩ by simp [usedL, n1, n2, n3, e4]);clear n1 n2 n3 e4;go_enter Tryz.func78, Tryz.ntmps78
     go_wp2_with fail;rw [← HW1.out];refine OpR (S := LB8 w.heap.size x ia ms.length ic ba bc) ?_;obtain ⟨X, hX⟩ : ∃ X, X = W1.drew := ⟨_, rfl⟩
     refine (show wpAnyH _ _ _ _ _ _ _ _ W1.drew from ?_);rw [← hX];have hS0 : LB8 w.heap.size x ia ms.length ic ba bc X := by rw [hX]; exact LB8.of HR0.out
     have bX : Below (w.heap.size + 2) W1 X := by rw [hX]; exact (Below.refl _ _).drew
     have oX : X.heap[w.heap.size + 1]? = some (.cells #[.int .i64 0, .int .i64 0, .int .i64 0, .int .i64 0, .int .i64 0, .bool false, .slice none 0 0, .slice none 0 0] 32 (0, 0)) := by rw [hX]; exact HR1.out
     have r0 : X.heap[w.heap.size + 2]? = some (.cells #[.int .i64 x.k, .int .i64 x.t, .int .i64 0, .int .i64 0, .int .i64 0, .bool false, .slice none 0 0, .slice none 0 0] 32 (0, 0)) := by rw [hX]; exact HR2.out
     clear hX;refine hT 0 40 hS0 ?_;refine hT 1 41 hS0 ?_;refine hT 2 42 hS0 ?_;refine hT 3 43 hS0 ?_;refine hT 4 44 hS0 ?_;refine hT 5 45 hS0 ?_;refine hT 6 46 hS0 ?_;refine Op1 7 ?_;refine wp_store_cell 4 (.tmp 46) (.tmp 41) rfl (w.heap.size + 2) 5 (.bool x.y) _ rfl rfl rfl infoBool8 (cell_of_row _ (w.heap.size + 2) 5 _ _ _ r0) (frozen_of_row _ _ _ _ _ r0) ?_;have r1 : (X.setCell ⟨w.heap.size + 2, 5, none⟩ (.bool x.y)).heap[w.heap.size + 2]? = some (.cells #[.int .i64 x.k, .int .i64 x.t, .int .i64 0, .int .i64 0, .int .i64 0, .bool x.y, .slice none 0 0, .slice none 0 0] 32 (0, 0)) := by have h9 := heap_setCell_same X (w.heap.size + 2) 5 _ _ (.bool x.y) r0; simpa using h9
     have hS1 := hS0.set (u := w.heap.size + 2) (by omega) 5 (.bool x.y);obtain ⟨Y1, hY1⟩ : ∃ Y, Y = X.setCell ⟨w.heap.size + 2, 5, none⟩ (.bool x.y) := ⟨_, rfl⟩
     have o1 : Y1.heap[w.heap.size + 1]? = some (.cells #[.int .i64 0, .int .i64 0, .int .i64 0, .int .i64 0, .int .i64 0, .bool false, .slice none 0 0, .slice none 0 0] 32 (0, 0)) := by rw [hY1]; exact (Below.heap_setCell _ _ _ _ (by simp)).trans oX
     have b1 : Below (w.heap.size + 2) X Y1 := by rw [hY1]; exact (Below.refl _ _).setCell (by simp) _
     rw [← hY1] at r1 hS1 ⊢;refine ⟨hS1, ?_⟩;clear hY1;go_simp;refine hT 8 47 hS1 ?_;refine Op1 9 ?_;refine wp_store_cell 3 (.tmp 47) (.tmp 43) rfl (w.heap.size + 2) 2 (.int .i64 x.a) _ rfl rfl rfl infoInt8 (cell_of_row _ (w.heap.size + 2) 2 _ _ _ r1) (frozen_of_row _ _ _ _ _ r1) ?_;have r2 : (Y1.setCell ⟨w.heap.size + 2, 2, none⟩ (.int .i64 x.a)).heap[w.heap.size + 2]? = some (.cells #[.int .i64 x.k, .int .i64 x.t, .int .i64 x.a, .int .i64 0, .int .i64 0, .bool x.y, .slice none 0 0, .slice none 0 0] 32 (0, 0)) := by have h9 := heap_setCell_same Y1 (w.heap.size + 2) 2 _ _ (.int .i64 x.a) r1; simpa using h9
     have hS2 := hS1.set (u := w.heap.size + 2) (by omega) 2 (.int .i64 x.a);obtain ⟨Y2, hY2⟩ : ∃ Y, Y = Y1.setCell ⟨w.heap.size + 2, 2, none⟩ (.int .i64 x.a) := ⟨_, rfl⟩
     have o2 : Y2.heap[w.heap.size + 1]? = some (.cells #[.int .i64 0, .int .i64 0, .int .i64 0, .int .i64 0, .int .i64 0, .bool false, .slice none 0 0, .slice none 0 0] 32 (0, 0)) := by rw [hY2]; exact (Below.heap_setCell _ _ _ _ (by simp)).trans o1
     have b2 : Below (w.heap.size + 2) Y1 Y2 := by rw [hY2]; exact (Below.refl _ _).setCell (by simp) _
     rw [← hY2] at r2 hS2 ⊢;refine ⟨hS2, ?_⟩;clear hY2;go_simp;refine hT 10 48 hS2 ?_;refine Op1 11 ?_;refine wp_store_cell 3 (.tmp 48) (.tmp 45) rfl (w.heap.size + 2) 4 (.int .i64 x.o) _ rfl rfl rfl infoInt8 (cell_of_row _ (w.heap.size + 2) 4 _ _ _ r2) (frozen_of_row _ _ _ _ _ r2) ?_;have r3 : (Y2.setCell ⟨w.heap.size + 2, 4, none⟩ (.int .i64 x.o)).heap[w.heap.size + 2]? = some (.cells #[.int .i64 x.k, .int .i64 x.t, .int .i64 x.a, .int .i64 0, .int .i64 x.o, .bool x.y, .slice none 0 0, .slice none 0 0] 32 (0, 0)) := by have h9 := heap_setCell_same Y2 (w.heap.size + 2) 4 _ _ (.int .i64 x.o) r2; simpa using h9
     have hS3 := hS2.set (u := w.heap.size + 2) (by omega) 4 (.int .i64 x.o);obtain ⟨Y3, hY3⟩ : ∃ Y, Y = Y2.setCell ⟨w.heap.size + 2, 4, none⟩ (.int .i64 x.o) := ⟨_, rfl⟩
     have o3 : Y3.heap[w.heap.size + 1]? = some (.cells #[.int .i64 0, .int .i64 0, .int .i64 0, .int .i64 0, .int .i64 0, .bool false, .slice none 0 0, .slice none 0 0] 32 (0, 0)) := by rw [hY3]; exact (Below.heap_setCell _ _ _ _ (by simp)).trans o2
     have b3 : Below (w.heap.size + 2) Y2 Y3 := by rw [hY3]; exact (Below.refl _ _).setCell (by simp) _
     rw [← hY3] at r3 hS3 ⊢;refine ⟨hS3, ?_⟩;clear hY3;refine OpE ?_;have HRU := Hh (show Y3.heap[w.heap.size + 2]? = some (.cells #[.int .i64 x.k, .int .i64 x.t, .int .i64 x.a, .int .i64 0, .int .i64 x.o, .bool x.y, .slice none 0 0, .slice none 0 0] 32 (0, 0)) from r3);have HRT := Hh (show Y3.heap[w.heap.size + 1]? = some (.cells #[.int .i64 0, .int .i64 0, .int .i64 0, .int .i64 0, .int .i64 0, .bool false, .slice none 0 0, .slice none 0 0] 32 (0, 0)) from o3);have HBR := Hh (show Below w.heap.size w Y3 from HB1.out.trans ((bX.trans ((b1.trans b2).trans b3)).mono (by omega)));clear r0 r1 r2 r3 hS0 hS1 hS2 hS3 o1 b1 o2 b2 o3 b3 bX oX;obtain ⟨c0, c1, c2, c3, c4, c5, c6, c7⟩ : Y3.cell? ⟨w.heap.size + 2, 0, none⟩ = some (.int .i64 x.k) ∧ Y3.cell? ⟨w.heap.size + 2, 1, none⟩ = some (.int .i64 x.t) ∧ Y3.cell? ⟨w.heap.size + 2, 2, none⟩ = some (.int .i64 x.a) ∧ Y3.cell? ⟨w.heap.size + 2, 3, none⟩ = some (.int .i64 0) ∧ Y3.cell? ⟨w.heap.size + 2, 4, none⟩ = some (.int .i64 x.o) ∧ Y3.cell? ⟨w.heap.size + 2, 5, none⟩ = some (.bool x.y) ∧ Y3.cell? ⟨w.heap.size + 2, 6, none⟩ = some (.slice none 0 0) ∧ Y3.cell? ⟨w.heap.size + 2, 7, none⟩ = some (.slice none 0 0) :=
      ⟨cell_of_row Y3 _ 0 _ _ _ HRU.out, cell_of_row Y3 _ 1 _ _ _ HRU.out, cell_of_row Y3 _ 2 _ _ _ HRU.out, cell_of_row Y3 _ 3 _ _ _ HRU.out, cell_of_row Y3 _ 4 _ _ _ HRU.out, cell_of_row Y3 _ 5 _ _ _ HRU.out, cell_of_row Y3 _ 6 _ _ _ HRU.out, cell_of_row Y3 _ 7 _ _ _ HRU.out⟩
     go_wp2_with (refine wpList_store_abs rfl 32 (.tmp 2) (.tmp 60) rfl (w.heap.size + 1) #[.int .i64 x.k, .int .i64 x.t, .int .i64 x.a, .int .i64 0, .int .i64 x.o, .bool x.y, .slice none 0 0, .slice none 0 0] rfl rfl 32 _ HRT.out infoLetter rfl (by simp [Value.oneCell']) ?_; intro W9 hrow9 hoth9 hb9 hs9);have hbF := HBR.out.trans (hb9.mono (show w.heap.size ≤ w.heap.size + 1 by omega));refine bodyPost_ret (results_cell_row rfl _ _ (w.heap.size + 1) 32 _ (0, 0) _ rfl hrow9 Tryz.underlying32 rfl infoLetter) rfl ?_;unfold UsedTo;rw [HU.out];refine ⟨none, 0, [], none, 0, rfl, ⟨itemsNil _ _, rfl, bsNil9 _ _⟩, hbF, by simp⟩
    ·have n4 : ¬ x.k = 4 := e4;have s4 : (x.k == 4) = false := by simpa using e4
     clear e4;by_cases e5 : x.k = 5
     ·have s5 : (x.k == 5) = true := by simpa using e5
      have HU := Hh (show usedL x = ⟨x.k, x.t, x.a, x.u, 0, false, [], x.b⟩ by simp [usedL, n1, n2, n3, n4, e5]);clear n1 n2 n3 n4 e5;go_enter Tryz.func78, Tryz.ntmps78
      go_wp2_with fail;rw [← HW1.out];refine OpR (S := LB8 w.heap.size x ia ms.length ic ba bc) ?_;obtain ⟨X, hX⟩ : ∃ X, X = W1.drew := ⟨_, rfl⟩
      refine (show wpAnyH _ _ _ _ _ _ _ _ W1.drew from ?_);rw [← hX];have hS0 : LB8 w.heap.size x ia ms.length ic ba bc X := by rw [hX]; exact LB8.of HR0.out
      have bX : Below (w.heap.size + 2) W1 X := by rw [hX]; exact (Below.refl _ _).drew
      have oX : X.heap[w.heap.size + 1]? = some (.cells #[.int .i64 0, .int .i64 0, .int .i64 0, .int .i64 0, .int .i64 0, .bool false, .slice none 0 0, .slice none 0 0] 32 (0, 0)) := by rw [hX]; exact HR1.out
      have r0 : X.heap[w.heap.size + 2]? = some (.cells #[.int .i64 x.k, .int .i64 x.t, .int .i64 0, .int .i64 0, .int .i64 0, .bool false, .slice none 0 0, .slice none 0 0] 32 (0, 0)) := by rw [hX]; exact HR2.out
      clear hX;refine hT 0 51 hS0 ?_;refine hT 1 52 hS0 ?_;refine hT 2 53 hS0 ?_;refine hT 3 54 hS0 ?_;refine hT 4 55 hS0 ?_;refine hT 5 56 hS0 ?_;refine hT 6 57 hS0 ?_;refine Op1 7 ?_;refine wp_store_cell 3 (.tmp 57) (.tmp 52) rfl (w.heap.size + 2) 2 (.int .i64 x.a) _ rfl rfl rfl infoInt8 (cell_of_row _ (w.heap.size + 2) 2 _ _ _ r0) (frozen_of_row _ _ _ _ _ r0) ?_;have r1 : (X.setCell ⟨w.heap.size + 2, 2, none⟩ (.int .i64 x.a)).heap[w.heap.size + 2]? = some (.cells #[.int .i64 x.k, .int .i64 x.t, .int .i64 x.a, .int .i64 0, .int .i64 0, .bool false, .slice none 0 0, .slice none 0 0] 32 (0, 0)) := by have h9 := heap_setCell_same X (w.heap.size + 2) 2 _ _ (.int .i64 x.a) r0; simpa using h9
      have hS1 := hS0.set (u := w.heap.size + 2) (by omega) 2 (.int .i64 x.a);obtain ⟨Y1, hY1⟩ : ∃ Y, Y = X.setCell ⟨w.heap.size + 2, 2, none⟩ (.int .i64 x.a) := ⟨_, rfl⟩
      have o1 : Y1.heap[w.heap.size + 1]? = some (.cells #[.int .i64 0, .int .i64 0, .int .i64 0, .int .i64 0, .int .i64 0, .bool false, .slice none 0 0, .slice none 0 0] 32 (0, 0)) := by rw [hY1]; exact (Below.heap_setCell _ _ _ _ (by simp)).trans oX
      have b1 : Below (w.heap.size + 2) X Y1 := by rw [hY1]; exact (Below.refl _ _).setCell (by simp) _
      rw [← hY1] at r1 hS1 ⊢;refine ⟨hS1, ?_⟩;clear hY1;go_simp;refine hT 8 58 hS1 ?_;refine Op1 9 ?_;refine wp_store_cell 3 (.tmp 58) (.tmp 54) rfl (w.heap.size + 2) 3 (.int .i64 x.u) _ rfl rfl rfl infoInt8 (cell_of_row _ (w.heap.size + 2) 3 _ _ _ r1) (frozen_of_row _ _ _ _ _ r1) ?_;have r2 : (Y1.setCell ⟨w.heap.size + 2, 3, none⟩ (.int .i64 x.u)).heap[w.heap.size + 2]? = some (.cells #[.int .i64 x.k, .int .i64 x.t, .int .i64 x.a, .int .i64 x.u, .int .i64 0, .bool false, .slice none 0 0, .slice none 0 0] 32 (0, 0)) := by have h9 := heap_setCell_same Y1 (w.heap.size + 2) 3 _ _ (.int .i64 x.u) r1; simpa using h9
      have hS2 := hS1.set (u := w.heap.size + 2) (by omega) 3 (.int .i64 x.u);obtain ⟨Y2, hY2⟩ : ∃ Y, Y = Y1.setCell ⟨w.heap.size + 2, 3, none⟩ (.int .i64 x.u) := ⟨_, rfl⟩
      have o2 : Y2.heap[w.heap.size + 1]? = some (.cells #[.int .i64 0, .int .i64 0, .int .i64 0, .int .i64 0, .int .i64 0, .bool false, .slice none 0 0, .slice none 0 0] 32 (0, 0)) := by rw [hY2]; exact (Below.heap_setCell _ _ _ _ (by simp)).trans o1
      have b2 : Below (w.heap.size + 2) Y1 Y2 := by rw [hY2]; exact (Below.refl _ _).setCell (by simp) _
      rw [← hY2] at r2 hS2 ⊢;refine ⟨hS2, ?_⟩;clear hY2;go_simp;refine hT 10 59 hS2 ?_;refine Op1 11 ?_;refine wp_store_cell 27 (.tmp 59) (.tmp 56) rfl (w.heap.size + 2) 7 (.slice ba x.b.length bc) _ rfl rfl rfl infoBytes8 (cell_of_row _ (w.heap.size + 2) 7 _ _ _ r2) (frozen_of_row _ _ _ _ _ r2) ?_;have r3 : (Y2.setCell ⟨w.heap.size + 2, 7, none⟩ (.slice ba x.b.length bc)).heap[w.heap.size + 2]? = some (.cells #[.int .i64 x.k, .int .i64 x.t, .int .i64 x.a, .int .i64 x.u, .int .i64 0, .bool false, .slice none 0 0, .slice ba x.b.length bc] 32 (0, 0)) := by have h9 := heap_setCell_same Y2 (w.heap.size + 2) 7 _ _ (.slice ba x.b.length bc) r2; simpa using h9
      have hS3 := hS2.set (u := w.heap.size + 2) (by omega) 7 (.slice ba x.b.length bc);obtain ⟨Y3, hY3⟩ : ∃ Y, Y = Y2.setCell ⟨w.heap.size + 2, 7, none⟩ (.slice ba x.b.length bc) := ⟨_, rfl⟩
      have o3 : Y3.heap[w.heap.size + 1]? = some (.cells #[.int .i64 0, .int .i64 0, .int .i64 0, .int .i64 0, .int .i64 0, .bool false, .slice none 0 0, .slice none 0 0] 32 (0, 0)) := by rw [hY3]; exact (Below.heap_setCell _ _ _ _ (by simp)).trans o2
      have b3 : Below (w.heap.size + 2) Y2 Y3 := by rw [hY3]; exact (Below.refl _ _).setCell (by simp) _
      rw [← hY3] at r3 hS3 ⊢;refine ⟨hS3, ?_⟩;clear hY3;refine OpE ?_;have HRU := Hh (show Y3.heap[w.heap.size + 2]? = some (.cells #[.int .i64 x.k, .int .i64 x.t, .int .i64 x.a, .int .i64 x.u, .int .i64 0, .bool false, .slice none 0 0, .slice ba x.b.length bc] 32 (0, 0)) from r3);have HRT := Hh (show Y3.heap[w.heap.size + 1]? = some (.cells #[.int .i64 0, .int .i64 0, .int .i64 0, .int .i64 0, .int .i64 0, .bool false, .slice none 0 0, .slice none 0 0] 32 (0, 0)) from o3);have HBR := Hh (show Below w.heap.size w Y3 from HB1.out.trans ((bX.trans ((b1.trans b2).trans b3)).mono (by omega)));clear r0 r1 r2 r3 hS0 hS1 hS2 hS3 o1 b1 o2 b2 o3 b3 bX oX;obtain ⟨c0, c1, c2, c3, c4, c5, c6, c7⟩ : Y3.cell? ⟨w.heap.size + 2, 0, none⟩ = some (.int .i64 x.k) ∧ Y3.cell? ⟨w.heap.size + 2, 1, none⟩ = some (.int .i64 x.t) ∧ Y3.cell? ⟨w.heap.size + 2, 2, none⟩ = some (.int .i64 x.a) ∧ Y3.cell? ⟨w.heap.size + 2, 3, none⟩ = some (.int .i64 x.u) ∧ Y3.cell? ⟨w.heap.size + 2, 4, none⟩ = some (.int .i64 0) ∧ Y3.cell? ⟨w.heap.size + 2, 5, none⟩ = some (.bool false) ∧ Y3.cell? ⟨w.heap.size + 2, 6, none⟩ = some (.slice none 0 0) ∧ Y3.cell? ⟨w.heap.size + 2, 7, none⟩ = some (.slice ba x.b.length bc) :=
       ⟨cell_of_row Y3 _ 0 _ _ _ HRU.out, cell_of_row Y3 _ 1 _ _ _ HRU.out, cell_of_row Y3 _ 2 _ _ _ HRU.out, cell_of_row Y3 _ 3 _ _ _ HRU.out, cell_of_row Y3 _ 4 _ _ _ HRU.out, cell_of_row Y3 _ 5 _ _ _ HRU.out, cell_of_row Y3 _ 6 _ _ _ HRU.out, cell_of_row Y3 _ 7 _ _ _ HRU.out⟩
      go_wp2_with (refine wpList_store_abs rfl 32 (.tmp 2) (.tmp 60) rfl (w.heap.size + 1) #[.int .i64 x.k, .int .i64 x.t, .int .i64 x.a, .int .i64 x.u, .int .i64 0, .bool false, .slice none 0 0, .slice ba x.b.length bc] rfl rfl 32 _ HRT.out infoLetter rfl (by simp [Value.oneCell']) ?_; intro W9 hrow9 hoth9 hb9 hs9);have hbF := HBR.out.trans (hb9.mono (show w.heap.size ≤ w.heap.size + 1 by omega));refine bodyPost_ret (results_cell_row rfl _ _ (w.heap.size + 1) 32 _ (0, 0) _ rfl hrow9 Tryz.underlying32 rfl infoLetter) rfl ?_;unfold UsedTo;rw [HU.out];refine ⟨none, 0, [], ba, bc, rfl, ⟨itemsNil _ _, rfl, (H.out.b.below hbF (Nat.le_refl _)).mono hbF.size⟩, hbF, by simp⟩
     ·have n5 : ¬ x.k = 5 := e5;have s5 : (x.k == 5) = false := by simpa using e5
      clear e5;have HU := Hh (show usedL x = ⟨x.k, x.t, 0, 0, 0, false, [], []⟩ by simp [usedL, n1, n2, n3, n4, n5]);clear n1 n2 n3 n4 n5;go_enter Tryz.func78, Tryz.ntmps78
      go_wp2_with fail;have hrF : (((w.alloc (.cells (lcell x ia ms.length ic ba bc) 32)).alloc (.cells #[.int .i64 x.k, .int .i64 x.t, .int .i64 0, .int .i64 0, .int .i64 0, .bool false, .slice none 0 0, .slice none 0 0] 32)).alloc (.cells #[.int .i64 x.k, .int .i64 x.t, .int .i64 0, .int .i64 0, .int .i64 0, .bool false, .slice none 0 0, .slice none 0 0] 32)).heap[w.heap.size + 1]? = some (.cells #[.int .i64 x.k, .int .i64 x.t, .int .i64 0, .int .i64 0, .int .i64 0, .bool false, .slice none 0 0, .slice none 0 0] 32 (0, 0)) := by
       refine (((Below.refl _ _).alloc (Nat.le_refl _) _).block (w.heap.size + 1) (by simp)).trans ?_;have h9 := heap_alloc_new (w.alloc (.cells (lcell x ia ms.length ic ba bc) 32)) (.cells #[.int .i64 x.k, .int .i64 x.t, .int .i64 0, .int .i64 0, .int .i64 0, .bool false, .slice none 0 0, .slice none 0 0] 32);simpa using h9
      have hbF : Below w.heap.size w (((w.alloc (.cells (lcell x ia ms.length ic ba bc) 32)).alloc (.cells #[.int .i64 x.k, .int .i64 x.t, .int .i64 0, .int .i64 0, .int .i64 0, .bool false, .slice none 0 0, .slice none 0 0] 32)).alloc (.cells #[.int .i64 x.k, .int .i64 x.t, .int .i64 0, .int .i64 0, .int .i64 0, .bool false, .slice none 0 0, .slice none 0 0] 32)) := (((Below.refl _ _).alloc (Nat.le_refl _) _).alloc (by simp) _).alloc (by simp; omega) _;refine bodyPost_ret (results_cell_row rfl _ _ (w.heap.size + 1) 32 _ (0, 0) _ rfl hrF Tryz.underlying32 rfl infoLetter) rfl ?_;unfold UsedTo;rw [HU.out];exact ⟨none, 0, [], none, 0, rfl, ⟨itemsNil _ _, rfl, bsNil9 _ _⟩, hbF, by simp⟩
end Go.Proofs.YtogcnfhmcpkdcaaGreat
namespace Go.Proofs.YtogcnfhmcpkdcaaGreat
open Go.RowKit
set_option linter.unusedVariables false
set_option linter.unusedSimpArgs false
set_option maxRecDepth 100000 in
set_option maxHeartbeats 2000000 in
theorem indexItems9 (ms : List MItem) (a : Option Addr) (n c : Nat) (w : World) (hn : n ≤ 100000) (h : ItemsAt w w.heap.size a n c ms) :
  Calls Tryz.prog 104 #[.slice a n c, .func (.func 76) #[] #[]] w fun e w' => ∃ k : Int, e = .returned (.int .i64 k) ∧ decide (0 ≤ k) = anyBad ms ∧ Below w.heap.size w w' := by
 have hl := h.len;subst hl;have H := Hh h;clear h;go_enter Tryz.func104, Tryz.ntmps104
 go_wp2_with fail;go_loopw [8] (fun iv wr => ∃ j : Nat, j ≤ ms.length ∧ iv = .int .i64 j ∧ anyBad (ms.take j) = false ∧ Below w.heap.size w wr) (fun iv _ => ms.length - (intOf iv).toNat)
 case atStart => exact ⟨0, by omega, rfl, rfl, Below.refl _ _⟩
 case round =>
  obtain ⟨j, hj, rfl, hany, hbel⟩ := hrel;have HAN := Hh hany;have HB := Hh hbel;clear hany;by_cases hlt : j < ms.length
  ·obtain ⟨m, hm⟩ : ∃ m, ms[j]? = some m := ⟨_, List.getElem?_eq_getElem hlt⟩
   obtain ⟨b, o, rfl, hb, k0, k1⟩ := H.out.cell hm;have c0 := (hbel.cell (p := ⟨b, o + j * 2, none⟩) hb).trans k0;have c1 : wr.cell? ⟨b, o + j * 2 + 1, none⟩ = some (.slice m.a m.n m.c) := (hbel.cell (p := ⟨b, o + (j * 2 + 1), none⟩) hb).trans k1;have hmn : m.n = m.b.length := ((H.out.bs m (List.mem_of_getElem? hm)).hlen).symm;rw [hmn] at c1;have hsn := anyBad_take hm;rw [HAN.out, Bool.false_or] at hsn;have HSN := Hh hsn;have HBM := Hh (show anyBad (ms.take (j + 1)) = true → anyBad ms = true from anyBad_mono);have hj0 : (0 : Int) ≤ (j : Int) := by omega
   have hj1 : (j : Int) < (ms.length : Int) := by omega
   have hsz := hbel.size;clear k0 k1 hm hsn hbel hmn;go_wp2_with fail;refine (letRight1 m.t m.a m.c m.b _).mono ?_;rintro e w1 ⟨rfl, hb1⟩;have HB1 := Hh (HB.out.trans (hb1.mono hsz));clear hb1 c0 c1;rw [← HSN.out];cases hr : anyBad (ms.take (j + 1))
   ·have HR := Hh hr;clear hr;go_wp2;go_roundw
    case rel => exact ⟨j + 1, by omega, by go_num, HR.out, HB1.out⟩
    case measure => simp [intOf]; omega
   ·have HR := Hh (HBM.out hr);clear hr;go_wp2;go_ret;exact ⟨j, rfl, by rw [HR.out]; simp, HB1.out⟩
  ·have hj' : j = ms.length := by omega
   subst hj';have HA := Hh (show anyBad ms = false by have := HAN.out; rwa [List.take_length] at this);clear hbel;go_wp2;go_ret;exact ⟨-1, rfl, by rw [HA.out]; rfl, HB.out⟩
theorem containsItems9 (ms : List MItem) (a : Option Addr) (n c : Nat) (w : World) (hn : n ≤ 100000) (h : ItemsAt w w.heap.size a n c ms) :
  Calls Tryz.prog 75 #[.slice a n c, .func (.func 76) #[] #[]] w fun e w' => e = .returned (.bool (anyBad ms)) ∧ Below w.heap.size w w' := by
 have H := Hh h;clear h;go_enter Tryz.func75, Tryz.ntmps75
 go_wp2_with fail;refine (indexItems9 ms a n c w hn H.out).mono ?_;rintro e w1 ⟨k, rfl, hk, hb⟩;have HB := Hh hb;have HK := Hh hk;clear hk hb;go_wp2;go_ret;exact ⟨ret_bool HK.out, HB.out⟩
structure LBx (g : Nat) (x : PLet) (ia : Option Addr) (n ic : Nat) (ba : Option Addr) (bc : Nat) (W : World) : Prop where
 r0 : W.heap[g]? = some (.cells (lcell x ia n ic ba bc) 32 (0, 0))
set_option maxRecDepth 100000 in
set_option maxHeartbeats 2000000 in
theorem letterRight (x : PLet) (ia : Option Addr) (ic : Nat) (ms : List MItem) (ba : Option Addr) (bc : Nat) (hn : ms.length ≤ 100000) (w : World) (h : LetAt w w.heap.size x ia ic ms ba bc) :
  Calls Tryz.prog 42 #[.agg (lcell x ia ms.length ic ba bc)] w fun e w' => e = .returned (.bool (rightL x)) ∧ Below w.heap.size w w' := by
 obtain ⟨W1, hW1⟩ : ∃ W1, W1 = w.alloc (.cells (lcell x ia ms.length ic ba bc) 32) := ⟨_, rfl⟩
 have HW1 := Hh hW1;have hs1 : W1.heap.size = w.heap.size + 1 := by rw [hW1]; simp
 have hb1 : Below w.heap.size w W1 := by rw [hW1]; exact (Below.refl _ _).alloc (Nat.le_refl _) _
 have hr0 : W1.heap[w.heap.size]? = some (.cells (lcell x ia ms.length ic ba bc) 32 (0, 0)) := by rw [hW1]; exact heap_alloc_new w _
 have HR0 := Hh hr0;have HB1 := Hh hb1;have H := Hh ((h.below hb1 (Nat.le_refl _)).mono hb1.size);have hits := h.eq;have hlen := h.len;have HLN := Hh hlen;obtain ⟨R, hR⟩ : ∃ R, rightL x = R := ⟨_, rfl⟩
 rw [hR];have HANY := Hh (show (x.its.any fun it => !rightI it) = anyBad ms by rw [← hits]; unfold anyBad; rw [List.any_map]; rfl);by_cases e1 : x.k < 1
 ·have t1 : decide (x.k < 1) = true := by simpa using e1
  have hRf : R = false := by rw [← hR]; simp [rightL, show ¬ (1 ≤ x.k) by omega]
  subst hRf;clear hR h hits hlen hW1 hb1 hr0 e1;go_enter Tryz.func42, Tryz.ntmps42
  go_wp2_with fail;go_wp2;(try rw [Exit.noGoto_ret]);go_ret;exact ⟨rfl, by have := HB1.out; rw [HW1.out] at this; exact this⟩
 ·have t1 : decide (x.k < 1) = false := by simpa using e1
  by_cases e2 : 5 < x.k
  ·have t2 : decide (5 < x.k) = true := by simpa using e2
   have hRf : R = false := by rw [← hR]; simp [rightL, show ¬ (x.k ≤ 5) by omega]
   subst hRf;clear hR h hits hlen hW1 hb1 hr0 e1 e2;go_enter Tryz.func42, Tryz.ntmps42
   go_wp2_with fail;go_wp2;(try rw [Exit.noGoto_ret]);go_ret;exact ⟨rfl, by have := HB1.out; rw [HW1.out] at this; exact this⟩
  ·have t2 : decide (5 < x.k) = false := by simpa using e2
   cases hT : inM x.t with
   | false =>
    have HT := Hh (show inZ x.t 1099511627776 = false from hT);have hRf : R = false := by rw [← hR]; simp [rightL, hT]
    subst hRf;clear hR h hits hlen hW1 hb1 hr0 e1 e2 hT;go_enter Tryz.func42, Tryz.ntmps42
    go_wp2_with fail;refine (letWithin _ _ _).mono ?_;rintro e w1 ⟨rfl, rfl⟩;rw [HT.out];go_wp2;(try rw [Exit.noGoto_ret]);go_ret;exact ⟨rfl, by have := HB1.out; rw [HW1.out] at this; exact this⟩
   | true =>
    have HT := Hh (show inZ x.t 1099511627776 = true from hT);cases hAU : (inM x.a && inM x.u) with
    | false =>
     have HAU := Hh hAU;have hRf : R = false := by
      rw [← hR];unfold rightL;rw [hAU]
      simp
     subst hRf;clear hR h hits hlen hW1 hb1 hr0 e1 e2 hT hAU;go_enter Tryz.func42, Tryz.ntmps42
     go_wp2_with fail;refine (letWithin _ _ _).mono ?_;rintro e w1 ⟨rfl, rfl⟩;rw [HT.out];go_wp2_with fail;refine (letIsPlace _ _ _).mono ?_;rintro e w1 ⟨rfl, rfl⟩;rw [HAU.out];go_wp2;(try rw [Exit.noGoto_ret]);go_ret;exact ⟨rfl, by have := HB1.out; rw [HW1.out] at this; exact this⟩
    | true =>
     have HAU := Hh hAU;cases hO : inM x.o with
     | false =>
      have HO := Hh (show inZ x.o 1099511627776 = false from hO);have hRf : R = false := by rw [← hR]; simp [rightL, hO]
      subst hRf;clear hR h hits hlen hW1 hb1 hr0 e1 e2 hT hAU hO;go_enter Tryz.func42, Tryz.ntmps42
      go_wp2_with fail;refine (letWithin _ _ _).mono ?_;rintro e w1 ⟨rfl, rfl⟩;rw [HT.out];go_wp2_with fail;refine (letIsPlace _ _ _).mono ?_;rintro e w1 ⟨rfl, rfl⟩;rw [HAU.out];go_wp2_with fail;refine (letWithin _ _ _).mono ?_;rintro e w1 ⟨rfl, rfl⟩;rw [HO.out];go_wp2;(try rw [Exit.noGoto_ret]);go_ret;exact ⟨rfl, by have := HB1.out; rw [HW1.out] at this; exact this⟩
     | true =>
      have HO := Hh (show inZ x.o 1099511627776 = true from hO);by_cases e6 : 16 < ms.length
      ·have t6 : decide ((16 : Int) < (ms.length : Int)) = true := by simp; omega
       have e6' : 16 < x.its.length := by omega
       have hRf : R = false := by rw [← hR]; simp [rightL, show ¬ (x.its.length ≤ 16) by omega]
       subst hRf;clear hR h hits hlen hW1 hb1 hr0 e1 e2 hT hAU hO e6 e6';go_enter Tryz.func42, Tryz.ntmps42
       go_wp2_with fail;refine (letWithin _ _ _).mono ?_;rintro e w1 ⟨rfl, rfl⟩;rw [HT.out];go_wp2_with fail;refine (letIsPlace _ _ _).mono ?_;rintro e w1 ⟨rfl, rfl⟩;rw [HAU.out];go_wp2_with fail;refine (letWithin _ _ _).mono ?_;rintro e w1 ⟨rfl, rfl⟩;rw [HO.out];go_wp2;(try rw [Exit.noGoto_ret]);go_ret;exact ⟨rfl, by have := HB1.out; rw [HW1.out] at this; exact this⟩
      ·have t6 : decide ((16 : Int) < (ms.length : Int)) = false := by simp; omega
       have e6' : ¬ 16 < x.its.length := by omega
       by_cases e7 : 65536 < x.b.length
       ·have t7 : decide ((65536 : Int) < (x.b.length : Int)) = true := by simp; omega
        have hRf : R = false := by rw [← hR]; simp [rightL, show ¬ (x.b.length ≤ 65536) by omega]
        subst hRf;clear hR h hits hlen hW1 hb1 hr0 e1 e2 hT hAU hO e6 e6' e7;go_enter Tryz.func42, Tryz.ntmps42
        go_wp2_with fail;refine (letWithin _ _ _).mono ?_;rintro e w1 ⟨rfl, rfl⟩;rw [HT.out];go_wp2_with fail;refine (letIsPlace _ _ _).mono ?_;rintro e w1 ⟨rfl, rfl⟩;rw [HAU.out];go_wp2_with fail;refine (letWithin _ _ _).mono ?_;rintro e w1 ⟨rfl, rfl⟩;rw [HO.out];go_wp2;(try rw [Exit.noGoto_ret]);go_ret;exact ⟨rfl, by have := HB1.out; rw [HW1.out] at this; exact this⟩
       ·have t7 : decide ((65536 : Int) < (x.b.length : Int)) = false := by simp; omega
        cases hbad : anyBad ms with
        | true =>
         have HBAD := Hh hbad;have hRf : R = false := by
          rw [← hR];have e8 := HANY.out;rw [hbad] at e8;unfold rightL;rw [e8]
          simp
         subst hRf;clear hR h hits hlen hW1 hb1 hr0 e1 e2 hT hAU hO e6 e6' e7 hbad;go_enter Tryz.func42, Tryz.ntmps42
         go_wp2_with fail;refine (letWithin _ _ _).mono ?_;rintro e w1 ⟨rfl, rfl⟩;rw [HT.out];go_wp2_with fail;refine (letIsPlace _ _ _).mono ?_;rintro e w1 ⟨rfl, rfl⟩;rw [HAU.out];go_wp2_with fail;refine (letWithin _ _ _).mono ?_;rintro e w1 ⟨rfl, rfl⟩;rw [HO.out];go_wp2_with fail;rw [← HW1.out];refine (containsItems9 ms ia ms.length ic _ hn H.out.its).mono ?_;rintro e w3 ⟨rfl, hb3⟩;rw [HBAD.out];have HB3 := Hh (HB1.out.trans (hb3.mono HB1.out.size));have HR3 := Hh ((hb3.block w.heap.size (by omega)).trans HR0.out);have H3 := Hh ((H.out.below hb3 (Nat.le_refl _)).mono hb3.size);have hs3 := hb3.size;clear hb3;go_wp2;(try rw [Exit.noGoto_ret]);go_ret;exact ⟨rfl, HB3.out⟩
        | false =>
         have HBAD := Hh hbad;have hRf : R = sameL x (usedL x) := by
          rw [← hR];have e8 := HANY.out;rw [hbad] at e8;simp only [Bool.and_eq_true] at hAU;have f1 : decide (1 ≤ x.k) = true := by simp; omega
          have f2 : decide (x.k ≤ 5) = true := by simp; omega
          have f3 : decide (x.its.length ≤ 16) = true := by simp; omega
          have f4 : decide (x.b.length ≤ 65536) = true := by simp; omega
          unfold rightL;rw [f1, f2, hT, hAU.1, hAU.2, hO, f3, f4, e8];rfl
         have HRF := Hh hRf;subst hRf;clear hR h hits hlen hW1 hb1 hr0 e1 e2 hT hAU hO e6 e6' e7 hbad;go_enter Tryz.func42, Tryz.ntmps42
         go_wp2_with fail;refine (letWithin _ _ _).mono ?_;rintro e w1 ⟨rfl, rfl⟩;rw [HT.out];go_wp2_with fail;refine (letIsPlace _ _ _).mono ?_;rintro e w1 ⟨rfl, rfl⟩;rw [HAU.out];go_wp2_with fail;refine (letWithin _ _ _).mono ?_;rintro e w1 ⟨rfl, rfl⟩;rw [HO.out];go_wp2_with fail;rw [← HW1.out];refine (containsItems9 ms ia ms.length ic _ hn H.out.its).mono ?_;rintro e w3 ⟨rfl, hb3⟩;rw [HBAD.out];have HB3 := Hh (HB1.out.trans (hb3.mono HB1.out.size));have HR3 := Hh ((hb3.block w.heap.size (by omega)).trans HR0.out);have H3 := Hh ((H.out.below hb3 (Nat.le_refl _)).mono hb3.size);have hs3 := hb3.size;clear hb3;go_wp2_with fail;refine OpR (S := LBx w.heap.size x ia ms.length ic ba bc) ?_;have hS0 : LBx w.heap.size x ia ms.length ic ba bc w3.drew := ⟨HR3.out⟩
         refine heldTake 0 46 rfl rfl (by kernel_rfl) (by kernel_rfl) (by kernel_rfl) (fun _ _ _ h => h) hS0 (yieldsIf_load_is (by rfl) 32 (.tmp 1) rfl w.heap.size rfl 32 (lcell x ia ms.length ic ba bc) _ (fun _ h => h.r0) Tryz.underlying32 rfl infoLetter) ?_;simp only [List.set_cons_zero, List.set_cons_succ];refine heldTake 1 47 rfl rfl (by kernel_rfl) (by kernel_rfl) (by kernel_rfl) (fun _ _ _ h => h) hS0 (yieldsIf_load_is (by rfl) 32 (.tmp 1) rfl w.heap.size rfl 32 (lcell x ia ms.length ic ba bc) _ (fun _ h => h.r0) Tryz.underlying32 rfl infoLetter) ?_;simp only [List.set_cons_zero, List.set_cons_succ];clear hS0;refine Op1 2 ?_;go_simp;have hdr : Below w3.heap.size w3 w3.drew := (Below.refl _ _).drew;refine (letterUsed x ia ic ms ba bc (by omega) w3.drew (H3.out.below (w' := w3.drew) hdr (Nat.le_refl _))).mono ?_;rintro e w4 ⟨ia', ic', ms', ba', bc', rfl, hlu, hb4, hn4⟩;have hb34 := hdr.trans hb4;have HB4 := Hh hb34;have HLU := Hh hlu;have hs4 := hb34.size;have H4 := Hh ((H3.out.below hb34 (Nat.le_refl _)).mono hs4);have hS4 : LBx w.heap.size x ia ms.length ic ba bc w4 := ⟨(hb34.block w.heap.size (by omega)).trans HR3.out⟩
         refine ⟨hS4, ?_⟩;clear hlu hb4 hb34 hdr hS4;refine Op1 3 ?_;go_simp;refine (letterSame x (usedL x) ia ia' ic ic' ms ms' ba ba' bc bc' (by omega) _ H4.out HLU.out).mono ?_;rintro e w5 ⟨rfl, hb5⟩;have HB5 := Hh (HB3.out.trans ((HB4.out.trans (hb5.mono hs4)).mono HB3.out.size));have hS5 : LBx w.heap.size x ia ms.length ic ba bc w5 := ⟨(hb5.block w.heap.size (by omega)).trans ((HB4.out.block w.heap.size (by omega)).trans HR3.out)⟩
         refine ⟨hS5, ?_⟩;clear hb5;refine hT 4 2 hS5 ?_;refine OpE ?_;clear hS5;go_wp2;(try rw [Exit.noGoto_ret]);go_ret;exact ⟨rfl, HB5.out⟩
end Go.Proofs.YtogcnfhmcpkdcaaGreat
namespace Go.Proofs.YtogcnfhmcpkdcaaGreat
open Go.RowKit
set_option linter.unusedVariables false
set_option linter.unusedSimpArgs false
end Go.Proofs.YtogcnfhmcpkdcaaGreat
