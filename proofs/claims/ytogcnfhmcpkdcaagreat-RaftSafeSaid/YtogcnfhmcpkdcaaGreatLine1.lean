/-
  Contracts of layer 17's small functions: within, right, fits, last, Base, Term, Last, New.
-/
import Derived.Test.YtogcnfhmcpkdcaaGreatSlMem
import Derived.Test.YtogcnfhmcpkdcaaGreatEyeM
import Derived.Test.YtogcnfhmcpkdcaaGreatFieldW
import Derived.Test.YtogcnfhmcpkdcaaGreatHeldM
import Derived.Deep.DeepMust
import Derived.IntWalk
import Derived.Deep.Onto
import Derived.Deep.RegionHeld3
import Derived.Deep.RegionWith
namespace Go.Proofs.YtogcnfhmcpkdcaaGreat
open Go.RowKit
set_option linter.unusedVariables false
set_option linter.unusedSimpArgs false
abbrev LnAt (w : World) (base p : Nat) (x : PLine) (la : Option Addr) (lc : Nat) (ms : List MItem) : Prop := LineAt 5 40 105 w base p x la lc ms
def inZ (n hi : Int) : Bool := decide (0 ≤ n) && decide (n ≤ hi)
theorem lineWithin (n hi : Int) (w : World) :
  Calls Tryz.prog 65 #[.int .i64 n, .int .i64 hi] w fun e w' => e = .returned (.bool (inZ n hi)) ∧ w = w' := by
 obtain ⟨x, y, h1, h2⟩ : ∃ x y : Bool, decide (0 ≤ n) = x ∧ decide (n ≤ hi) = y := ⟨_, _, rfl, rfl⟩
 have e1 : inZ n hi = (x && y) := by rw [← h1, ← h2]; rfl
 rw [e1];have HE := Hh e1;clear e1;cases x
 ·go_enter Tryz.func65, Tryz.ntmps65
  go_wp2;go_ret;exact ⟨rfl, rfl⟩
 ·cases y
  all_goals
   go_enter Tryz.func65, Tryz.ntmps65
   go_wp2;go_ret;exact ⟨rfl, rfl⟩
theorem lineRight (t : Int) (a : Option Addr) (c : Nat) (b : List UInt8) (w : World) :
  Calls Tryz.prog 84 #[.agg #[.int .i64 t, .slice a b.length c]] w fun e w' => e = .returned (.bool (rightI (t, b))) ∧ Below w.heap.size w w' := by
 obtain ⟨x, h1⟩ : ∃ x : Bool, inZ t 1099511627776 = x := ⟨_, rfl⟩
 obtain ⟨y, h2⟩ : ∃ y : Bool, decide ((b.length : Int) ≤ 8192) = y := ⟨_, rfl⟩
 have h2' : decide (b.length ≤ 8192) = y := by rw [← h2, Bool.eq_iff_iff]; simp; omega
 have e1 : rightI (t, b) = (x && y) := by rw [← h1, ← h2', inZ, rightI, Bool.and_assoc]
 rw [e1];have HE := Hh e1;have H1 := Hh h1;have HB := Hh ((Below.refl _ w).alloc (Nat.le_refl _) (.cells #[.int .i64 t, .slice a b.length c] 40));clear e1 h1;cases x
 ·go_enter Tryz.func84, Tryz.ntmps84
  go_wp2_with fail;refine (lineWithin _ _ _).mono ?_;rintro e w1 ⟨rfl, rfl⟩;rw [H1.out];go_wp2;go_ret;exact ⟨rfl, HB.out⟩
 ·cases y
  all_goals
   go_enter Tryz.func84, Tryz.ntmps84
   go_wp2_with fail;refine (lineWithin _ _ _).mono ?_;rintro e w1 ⟨rfl, rfl⟩;rw [H1.out];go_wp2;go_ret;exact ⟨rfl, HB.out⟩
theorem lineFits (base p : Nat) (x : PLine) (hx0 : 0 ≤ x.base) (hx1 : x.base ≤ 1099511627776) (la : Option Addr) (lc : Nat) (ms : List MItem) (n : Int) (w : World) (h : LnAt w base p x la lc ms) :
  Calls Tryz.prog 85 #[.pointer (some ⟨p, 0, none⟩), .int .i64 n] w fun e w' => e = .returned (.bool (fitsB x n)) ∧ w = w' := by
 obtain ⟨c0, c1, c2, cf⟩ := h.cells;obtain ⟨y, h1⟩ : ∃ y : Bool, decide (n ≤ 4096) = y := ⟨_, rfl⟩
 obtain ⟨z, h2⟩ : ∃ z : Bool, decide (n ≤ 1099511627776 - x.base) = z := ⟨_, rfl⟩
 have e1 : fitsB x n = (y && z) := by rw [← h1, ← h2]; rfl
 rw [e1];have HE := Hh e1;clear e1 h c1 c2 cf;cases y
 ·go_enter Tryz.func85, Tryz.ntmps85
  go_wp2;go_ret;exact ⟨rfl, rfl⟩
 ·cases z
  all_goals
   go_enter Tryz.func85, Tryz.ntmps85
   go_wp2;go_ret;exact ⟨rfl, rfl⟩
theorem linelast (base p : Nat) (x : PLine) (hg : x.Good) (la : Option Addr) (lc : Nat) (ms : List MItem) (w : World) (h : LnAt w base p x la lc ms) :
  Calls Tryz.prog 87 #[.pointer (some ⟨p, 0, none⟩)] w fun e w' => e = .returned (.int .i64 x.last) ∧ ∃ m, w' = w.drewN m := by
 obtain ⟨c0, c1, c2, cf⟩ := h.cells;have hl := h.len;have h1 := hg.b0;have h2 := hg.b1;have h3 := hg.n1;have h4 : (ms.length : Int) ≤ 4096 := by omega
 obtain ⟨L, hL⟩ : ∃ L, L = x.last := ⟨_, rfl⟩
 have hL2 : x.base + (ms.length : Int) = L := by rw [hL, PLine.last, hl]
 rw [← hL];have HL := Hh hL2;clear h hl hL hL2 h3 c1 cf;go_enter Tryz.func87, Tryz.ntmps87
 go_wp2_with fail;go_quiet (fail)
 go_wp2;go_ret;exact ⟨ret_int HL.out, _, rfl⟩
theorem below_drewN (w : World) (n : Nat) : Below w.heap.size w (w.drewN n) := ⟨rfl, rfl, rfl, Nat.le_refl _, fun _ _ => rfl⟩
theorem LineAt.drewN {U8 TI TL : TypeId} {w : World} {base p : Nat} {x : PLine} {la : Option Addr} {lc : Nat} {ms : List MItem} (h : LineAt U8 TI TL w base p x la lc ms) (n : Nat) : LineAt U8 TI TL (w.drewN n) base p x la lc ms :=
 h.below (below_drewN w n)
theorem lineBase (base p : Nat) (x : PLine) (la : Option Addr) (lc : Nat) (ms : List MItem) (w : World) (h : LnAt w base p x la lc ms) :
  Calls Tryz.prog 30 #[.pointer (some ⟨p, 0, none⟩)] w fun e w' => e = .returned (.tuple #[.int .i64 x.base, .int .i64 x.term]) ∧ ∃ m, w' = w.drewN m := by
 obtain ⟨c0, c1, c2, cf⟩ := h.cells;clear h c2 cf;go_enter Tryz.func30, Tryz.ntmps30
 go_wp2_with fail;go_quiet (fail)
 go_wp2;go_ret2;exact ⟨rfl, _, rfl⟩
def tmIs (x : PLine) (i : Int) : Int × Bool := if 0 ≤ x.tm i then (x.tm i, true) else (0, false)
theorem lineTerm (base p : Nat) (x : PLine) (hg : x.Good) (la : Option Addr) (lc : Nat) (ms : List MItem) (i : Int) (w : World) (h : LnAt w base p x la lc ms) :
  Calls Tryz.prog 68 #[.pointer (some ⟨p, 0, none⟩), .int .i64 i] w fun e w' => e = .returned (.tuple #[.int .i64 (tmIs x i).1, .bool (tmIs x i).2]) ∧ ∃ m, w' = w.drewN m := by
 obtain ⟨c0, c1, c2, cf⟩ := h.cells;have hl := h.len;have h1 := hg.b0;have h2 := hg.b1;have h3 := hg.n1;have htg := hg.tm_ge i;have hlast : x.last = x.base + (x.l.length : Int) := rfl;obtain ⟨L, hL⟩ : ∃ L, L = x.last := ⟨_, rfl⟩
 obtain ⟨R, hR⟩ : ∃ R, R = tmIs x i := ⟨_, rfl⟩
 rw [← hR];have HR := Hh hR;have HH := Hh h;by_cases e0 : i = x.base
 ·have t0 : (i == x.base) = true := by simpa using e0
  have hr : R = (x.term, true) := by
   rw [hR, tmIs, if_pos (by rw [htg]; omega)];simp [PLine.tm, e0]
  subst hr;clear h hl hR htg hlast hL h3 e0;go_enter Tryz.func68, Tryz.ntmps68
  go_wp2;go_ret2;exact ⟨rfl, 0, rfl⟩
 ·have t0 : (i == x.base) = false := by simpa using e0
  by_cases e1 : i < x.base
  ·have hr : R = (0, false) := by rw [hR, tmIs, if_neg (by rw [htg]; omega)]
   subst hr;clear h hl hR htg hlast hL h3 e0;go_enter Tryz.func68, Tryz.ntmps68
   go_wp2;go_ret2;exact ⟨rfl, 0, rfl⟩
  ·by_cases e2 : L < i
   ·have hr : R = (0, false) := by rw [hR, tmIs, if_neg (by rw [htg]; omega)]
    subst hr;have HL := Hh hL;clear h hl hR htg hlast hL h3 e0;go_enter Tryz.func68, Tryz.ntmps68
    go_wp2_with fail;refine (linelast base p x hg la lc ms _ HH.out).mono ?_;rintro e w1 ⟨rfl, m, rfl⟩;rw [← HL.out];go_wp2;go_ret2;exact ⟨rfl, _, rfl⟩
   ·have hlt : (i - x.base - 1).toNat < ms.length := by omega
    obtain ⟨k, hk⟩ : ∃ k, (i - x.base - 1).toNat = k := ⟨_, rfl⟩
    rw [hk] at hlt;obtain ⟨mi, hmi⟩ : ∃ mi, ms[k]? = some mi := ⟨_, List.getElem?_eq_getElem hlt⟩
    obtain ⟨b, o, rfl, hb, k0, k1⟩ := h.sl.cell hmi;have hr : R = (mi.t, true) := by
     rw [hR, tmIs, if_pos (by rw [htg]; omega)];simp only [PLine.tm];rw [if_neg e0, if_neg (by omega), ← h.its, hk];simp [List.getD, List.getElem?_map, hmi]
    rw [← hk, show (i - x.base - 1).toNat = (i - x.base).toNat - 1 by omega] at k0;subst hr;have HL := Hh hL;have hi1 : i - x.base - 1 < (ms.length : Int) := by omega
    have hi0 : 0 ≤ i - x.base - 1 := by omega
    have hm4 : (ms.length : Int) ≤ 4096 := by omega
    clear h hl hR htg hlast hL h3 e0 hmi hk hlt;go_enter Tryz.func68, Tryz.ntmps68
    go_wp2_with fail;refine (linelast base p x hg _ lc ms _ HH.out).mono ?_;rintro e w1 ⟨rfl, m, rfl⟩;rw [← HL.out];go_wp2_with fail;have s1 : IntKind.i64.wrap (i - x.base) = i - x.base := IntWalk.i64_in _ (by omega);have s2 : IntKind.i64.wrap (i - x.base - 1) = i - x.base - 1 := IntWalk.i64_in _ (by omega);have s3 : decide (0 ≤ i - x.base - 1) = true := by simp; omega
    have s4 : decide (i - x.base - 1 < (ms.length : Int)) = true := by simp; omega
    go_quiet (fail)
    go_wp2;go_ret2;exact ⟨rfl, _, World.drewN_drewN _ _ _⟩
theorem lineLast (base p : Nat) (x : PLine) (hg : x.Good) (la : Option Addr) (lc : Nat) (ms : List MItem) (w : World) (h : LnAt w base p x la lc ms) :
  Calls Tryz.prog 70 #[.pointer (some ⟨p, 0, none⟩)] w fun e w' => e = .returned (.tuple #[.int .i64 x.last, .int .i64 (tmIs x x.last).1]) ∧ ∃ m, w' = w.drewN m := by
 obtain ⟨L, hL⟩ : ∃ L, x.last = L := ⟨_, rfl⟩
 rw [hL];have HL := Hh hL;have H := Hh h;clear h hL;go_enter Tryz.func70, Tryz.ntmps70
 go_wp2_with fail;refine (linelast base p x hg _ lc ms _ H.out).mono ?_;rintro e w1 ⟨rfl, m, rfl⟩;rw [HL.out];go_wp2_with fail;refine (lineTerm base p x hg _ lc ms _ _ (H.out.drewN m)).mono ?_;rintro e w1 ⟨rfl, m2, rfl⟩;go_wp2_with fail;have H2 := Hh (H.out.drewN (m + m2));refine (linelast base p x hg _ lc ms _ H2.out).mono ?_;rintro e w1 ⟨rfl, m3, rfl⟩;rw [HL.out];go_wp2;go_ret2;exact ⟨rfl, m + m2 + m3, by simp [World.drewN_drewN]⟩
def isNew (b t : Int) : Bool := inZ b 1099511627776 && inZ t 1099511627776
theorem isNew_iff (b t : Int) : isNew b t = true ↔ 0 ≤ b ∧ b ≤ 1099511627776 ∧ 0 ≤ t ∧ t ≤ 1099511627776 := by simp [isNew, inZ, and_assoc]
theorem new_good {b t : Int} (h : isNew b t = true) : PLine.Good ⟨b, t, []⟩ := by
 obtain ⟨h1, h2, h3, h4⟩ := (isNew_iff b t).1 h;exact ⟨h1, h2, h3, h4, by simp, by simpa using h2, by simp⟩
theorem lineNew_yes (b t : Int) (h : isNew b t = true) (w : World) :
  Calls Tryz.prog 34 #[.int .i64 b, .int .i64 t] w fun e w' => e = .returned (.pointer (some ⟨w.heap.size, 0, none⟩)) ∧ LnAt w' w.heap.size w.heap.size ⟨b, t, []⟩ none 0 [] ∧ Below w.heap.size w w' ∧ w'.heap.size = w.heap.size + 1 := by
 have hx : inZ b 1099511627776 = true := by simp [isNew] at h; exact h.1
 have hy : inZ t 1099511627776 = true := by simp [isNew] at h; exact h.2
 have HX := Hh hx;have HY := Hh hy;clear hx hy h;go_enter Tryz.func34, Tryz.ntmps34
 go_wp2_with fail;refine (lineWithin _ _ _).mono ?_;rintro e w1 ⟨rfl, rfl⟩;rw [HX.out];go_wp2_with fail;refine (lineWithin _ _ _).mono ?_;rintro e w1 ⟨rfl, rfl⟩;rw [HY.out];go_wp2;go_ret;exact ⟨rfl, ⟨heap_alloc_new w _, ⟨rfl, .inl ⟨rfl, rfl⟩⟩, rfl, by simp, Nat.le_refl _⟩, (Below.refl _ w).alloc (Nat.le_refl _) _, by simp⟩
theorem infoItem : (Tryz.prog.info? 40).map (·.size) = some 2 := by kernel_rfl
theorem cell_setRow_far (w : World) (g : Nat) (cs : Array Value) (k : Nat) (hk : k ≠ g) : ∀ o, (w.setRow g cs).cell? ⟨k, o, none⟩ = w.cell? ⟨k, o, none⟩ := fun o =>
 World.cell?_of_block (a := ⟨k, o, none⟩) (setRow_other _ _ _ _ hk)
set_option maxRecDepth 100000 in
set_option maxHeartbeats 1000000 in
theorem lineClone (t : Int) (a : Option Addr) (c : Nat) (b : List UInt8) (w : World) (h : BsAt w w.heap.size a b.length c b) :
  Calls Tryz.prog 86 #[.agg #[.int .i64 t, .slice a b.length c]] w fun e w' => ∃ a' c', e = .returned (.agg #[.int .i64 t, .slice a' b.length c']) ∧ w'.ownsRow w.heap.size 5 1 (.slice a' b.length c') b.length (b.map bv) ∧ Below w.heap.size w w' := by
 obtain ⟨W0, hW0⟩ : ∃ W0, W0 = (w.alloc (.cells #[.int .i64 t, .slice a b.length c] 40)).alloc (.cells #[.int .i64 0, .slice none 0 0] 40) := ⟨_, rfl⟩
 have hb0 : Below w.heap.size w W0 := by rw [hW0]; exact ((Below.refl _ w).alloc (Nat.le_refl _) _).alloc (by simp) _
 have hbs : BsAt W0 W0.heap.size a b.length c b := (h.below hb0 (Nat.le_refl _)).mono hb0.size;have HBS := Hh (show BsAt W0.drew W0.drew.heap.size a b.length c b from hbs.below (Below.refl _ _).drew (Nat.le_refl _));have HW := Hh hW0;clear h hbs;go_enter Tryz.func86, Tryz.ntmps86
 go_wp2_with fail;rw [← HW.out];have k0 : W0.cell? ⟨w.heap.size, 0, none⟩ = some (.int .i64 t) := by rw [hW0]; simp [go_sem]
 have k1 : W0.cell? ⟨w.heap.size, 1, none⟩ = some (.slice a b.length c) := by rw [hW0]; simp [go_sem]
 have k2 : W0.heap[w.heap.size + 1]? = some (.cells #[.int .i64 0, .slice none 0 0] 40 (0, 0)) := by rw [hW0]; have := heap_alloc_new (w.alloc (.cells #[.int .i64 t, .slice a b.length c] 40)) (.cells #[.int .i64 0, .slice none 0 0] 40); simpa using this
 have hs0 : W0.heap.size = w.heap.size + 2 := by rw [hW0]; simp
 have HB0 := Hh hb0;have K2 := Hh k2;clear hW0 hb0 k2 HW;refine OpR (S := fun w' => w'.cell? ⟨w.heap.size, 0, none⟩ = some (.int .i64 t) ∧ w'.cell? ⟨w.heap.size, 1, none⟩ = some (.slice a b.length c)) ?_;have hS0 : W0.drew.cell? ⟨w.heap.size, 0, none⟩ = some (.int .i64 t) ∧ W0.drew.cell? ⟨w.heap.size, 1, none⟩ = some (.slice a b.length c) := ⟨k0, k1⟩
 refine heldTake 0 3 rfl rfl (by kernel_rfl) (by kernel_rfl) (by kernel_rfl) (fun _ _ _ h => h) hS0 (.inl ⟨by rfl, by intro w' hS; (try dsimp only at hS); go_simp; (try rfl)⟩) ?_;simp only [List.set_cons_zero, List.set_cons_succ];refine heldTake 1 4 rfl rfl (by kernel_rfl) (by kernel_rfl) (by kernel_rfl) (fun _ _ _ h => h) hS0 (.inl ⟨by rfl, by intro w' hS; (try dsimp only at hS); go_simp; (try rfl)⟩) ?_;simp only [List.set_cons_zero, List.set_cons_succ];refine heldTake 2 5 rfl rfl (by kernel_rfl) (by kernel_rfl) (by kernel_rfl) (fun _ _ _ h => h) hS0 (.inl ⟨by rfl, by intro w' hS; (try dsimp only at hS); go_simp; (try rfl)⟩) ?_;simp only [List.set_cons_zero, List.set_cons_succ];refine heldTake 3 6 rfl rfl (by kernel_rfl) (by kernel_rfl) (by kernel_rfl) (fun _ _ _ h => h) hS0 (.inl ⟨by rfl, by intro w' hS; (try dsimp only at hS); go_simp; (try rfl)⟩) ?_;simp only [List.set_cons_zero, List.set_cons_succ];refine Op1 4 ?_;go_simp;refine (cloneB b a b.length c _ HBS.out).mono ?_;rintro e w1 ⟨a', c', rfl, -, hb1, hown⟩;have hS1 : w1.cell? ⟨w.heap.size, 0, none⟩ = some (.int .i64 t) ∧ w1.cell? ⟨w.heap.size, 1, none⟩ = some (.slice a b.length c) := by
  rw [hb1.cell (p := ⟨w.heap.size, 0, none⟩) (by show w.heap.size < W0.heap.size; omega), hb1.cell (p := ⟨w.heap.size, 1, none⟩) (by show w.heap.size < W0.heap.size; omega)];exact hS0
 refine ⟨hS1, ?_⟩;refine heldTake 5 8 rfl rfl (by kernel_rfl) (by kernel_rfl) (by kernel_rfl) (fun _ _ _ h => h) hS1 (.inl ⟨by rfl, by intro w' hS; (try dsimp only at hS); go_simp; (try rfl)⟩) ?_;simp only [List.set_cons_zero, List.set_cons_succ];refine Op1 6 ?_;have hs1 : W0.heap.size ≤ w1.heap.size := hb1.size;have hj : w1.heap[w.heap.size + 1]? = some (.cells #[.int .i64 0, .slice none 0 0] 40 (0, 0)) := (hb1.block _ (by show _ < W0.heap.size; omega)).trans K2.out;refine wp_store_row 40 _ _ rfl (w.heap.size + 1) #[.int .i64 t, .slice a' b.length c'] rfl rfl 40 _ hj infoItem rfl (by simp [Value.oneCell']) ?_;refine ⟨by rw [cell_setRow_far _ _ _ _ (by omega), cell_setRow_far _ _ _ _ (by omega)]; exact hS1, OpE ?_⟩;have hr := setRow_heap w1 (w.heap.size + 1) _ #[.int .i64 t, .slice a' b.length c'] 40 _ hj;have hb1' : Below w.heap.size W0.drew w1 := hb1.mono (show w.heap.size ≤ W0.heap.size by omega);have hb1s : Below w.heap.size w1 (w1.setRow (w.heap.size + 1) #[.int .i64 t, .slice a' b.length c']) := below_setRow w1 _ (by omega);have hbf : Below w.heap.size w (w1.setRow (w.heap.size + 1) #[.int .i64 t, .slice a' b.length c']) := HB0.out.trans ((Below.refl _ W0).drew.trans (hb1'.trans hb1s));have hown2 : (w1.setRow (w.heap.size + 1) #[.int .i64 t, .slice a' b.length c']).ownsRow w.heap.size 5 1 (.slice a' b.length c') b.length (b.map bv) := by
  refine World.ownsRow.mono (World.ownsRow.kept hown (row := some (w.heap.size + 1)) ⟨rfl, rfl, rfl, by simp, fun k hk hne => setRow_other _ _ _ _ (fun e => hne (by rw [e]))⟩ (.inr fun e => ?_)) (by show w.heap.size ≤ W0.heap.size; omega);have h9 := (hown.lt _ e).1;have h10 : W0.drew.heap.size = W0.heap.size := rfl;omega
 go_wp2;exact bodyPost_ret (results_cell_row rfl _ _ (w.heap.size + 1) 40 _ (0, 0) _ rfl hr Tryz.underlying40 rfl infoItem) rfl ⟨a', c', rfl, hown2, hbf⟩
end Go.Proofs.YtogcnfhmcpkdcaaGreat
