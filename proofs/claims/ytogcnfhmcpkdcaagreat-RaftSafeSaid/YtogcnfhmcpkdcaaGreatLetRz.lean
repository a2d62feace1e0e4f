/-
  Contract of letter.Read (without the reference's reading).
-/
import Derived.Test.YtogcnfhmcpkdcaaGreatLetPl
import Derived.Test.YtogcnfhmcpkdcaaGreatLetM2
import Derived.Test.YtogcnfhmcpkdcaaGreatReadM
import Derived.Test.YtogcnfhmcpkdcaaGreatLine2
import Derived.Test.YtogcnfhmcpkdcaaGreatFieldM
namespace Go.Proofs.YtogcnfhmcpkdcaaGreat
open Go.RowKit
set_option linter.unusedVariables false
set_option linter.unusedSimpArgs false
theorem own_mv {w w' : World} {base e size n : Nat} {v : Value} {xs : List Value} (h : w.ownsRow base e size v n xs) (hb : ∀ g cur, v.ownBlock = some g → w.heap[g]? = some (.cells cur e (0, 0)) → w'.heap[g]? = w.heap[g]?) : w'.ownsRow base e size v n xs := by
 refine ⟨h.1, ?_⟩;rcases h.2 with ⟨e, hn⟩ | ⟨g, cap, cur, e, h1, h2, h3, h4, h5, h6⟩
 ·exact .inl ⟨e, hn⟩
 ·exact .inr ⟨g, cap, cur, e, h1, (hb g cur (by rw [e]; rfl) h2).trans h2, h3, h4, h5, h6⟩
theorem ty_ne9 {w : World} {k : Nat} {cs cs' : Array Value} {T T' : TypeId} {fr fr' : Nat × Nat} (h : w.heap[k]? = some (.cells cs T fr)) (h' : w.heap[k]? = some (.cells cs' T' fr')) (hne : (T : Nat) ≠ T') : False := by
 rw [h] at h';injection h' with h'
 injection h' with _ e _
 exact hne e
def zeroL : PLet := ⟨0, 0, 0, 0, 0, false, [], []⟩
structure LOwn (N : Nat) (W : World) (v : PLet) (ia : Option Addr) (ic : Nat) (ms : List MItem) (ba : Option Addr) (bc : Nat) : Prop where
 own : W.ownsRow N 40 2 (.slice ia ms.length ic) ms.length (cellsM ms)
 its : ms.map MItem.it = v.its
 bs : ∀ m ∈ ms, m.n ≤ 8192 ∧ W.ownsRow N 5 1 (.slice m.a m.n m.c) m.n (m.b.map bv)
 b : W.ownsRow N 5 1 (.slice ba v.b.length bc) v.b.length (v.b.map bv)
 bl : v.b.length ≤ 65536
theorem LOwn.moved {N : Nat} {W W' : World} {v : PLet} {ia : Option Addr} {ic : Nat} {ms : List MItem} {ba : Option Addr} {bc : Nat} (h : LOwn N W v ia ic ms ba bc) (hk : ∀ k, N ≤ k → k < W.heap.size → W'.heap[k]? = W.heap[k]?) : LOwn N W' v ia ic ms ba bc :=
 ⟨own_mv h.own fun g cur hg _ => hk g (own_lt h.own hg).1 (own_lt h.own hg).2, h.its, fun m hm => ⟨(h.bs m hm).1, own_mv (h.bs m hm).2 fun g cur hg _ => hk g (own_lt (h.bs m hm).2 hg).1 (own_lt (h.bs m hm).2 hg).2⟩, own_mv h.b fun g cur hg _ => hk g (own_lt h.b hg).1 (own_lt h.b hg).2, h.bl⟩
theorem LOwn.mono {N M : Nat} {W : World} {v : PLet} {ia : Option Addr} {ic : Nat} {ms : List MItem} {ba : Option Addr} {bc : Nat} (h : LOwn N W v ia ic ms ba bc) (hN : M ≤ N) : LOwn M W v ia ic ms ba bc :=
 ⟨World.ownsRow.mono h.own hN, h.its, fun m hm => ⟨(h.bs m hm).1, World.ownsRow.mono (h.bs m hm).2 hN⟩, World.ownsRow.mono h.b hN, h.bl⟩
structure Lk (w : World) (q : Nat) (W : World) (r : List UInt8) (v : PLet) (ia : Option Addr) (ic : Nat) (ms : List MItem) (ba : Option Addr) (bc : Nat) : Prop where
 but : But q w W
 eye : EyeAt W q r
 size : w.heap.size + 2 ≤ W.heap.size
 box : W.heap[w.heap.size]? = some (.cells #[.pointer (some ⟨q, 0, none⟩)] 128 (0, 0))
 row : W.heap[w.heap.size + 1]? = some (.cells (lcell v ia ms.length ic ba bc) 32 (0, 0))
 own : LOwn (w.heap.size + 2) W v ia ic ms ba bc
section
variable {w : World} {q : Nat} {W W' : World} {r r' : List UInt8} {v v' : PLet} {ia ia' : Option Addr} {ic ic' : Nat} {ms ms' : List MItem} {ba ba' : Option Addr} {bc bc' : Nat}
theorem Lk.step (h : Lk w q W r v ia ic ms ba bc) (hq : q < w.heap.size) (hb : But q W W') (he : EyeAt W' q r') : Lk w q W' r' v ia ic ms ba bc := by
 have hs := h.size;exact ⟨h.but.trans hb, he, Nat.le_trans hs hb.size, (hb.block _ (by omega) (by omega)).trans h.box, (hb.block _ (by omega) (by omega)).trans h.row, h.own.moved fun k h1 h2 => hb.block k h2 (by omega)⟩
theorem Lk.below (h : Lk w q W r v ia ic ms ba bc) (hq : q < w.heap.size) (hb : Below W.heap.size W W') : Lk w q W' r v ia ic ms ba bc := by
 have hs := h.size;exact h.step hq (But.ofBelow (by omega) hb) (h.eye.below hb)
theorem Lk.turn (h : Lk w q W r v ia ic ms ba bc) (hq : q < w.heap.size) (hb : Below (w.heap.size + 1) W W') (hrow : W'.heap[w.heap.size + 1]? = some (.cells (lcell v' ia' ms'.length ic' ba' bc') 32 (0, 0))) (ho : LOwn (w.heap.size + 2) W' v' ia' ic' ms' ba' bc') : Lk w q W' r v' ia' ic' ms' ba' bc' := by
 have hs := h.size;refine ⟨⟨hb.os.trans h.but.os, hb.tape.trans h.but.tape, hb.output.trans h.but.output, Nat.le_trans h.but.size hb.size, fun k hk hkq => (hb.block k (by omega)).trans (h.but.block k hk hkq), fun o e hoo => (hb.cell (p := ⟨q, o, e⟩) (show q < _ by omega)).trans (h.but.cell o e hoo)⟩, h.eye.keep (hb.mono (by omega)), Nat.le_trans hs hb.size, (hb.block _ (by omega)).trans h.box, hrow, ho⟩
theorem Lk.set (h : Lk w q W r v ia ic ms ba bc) (hq : q < w.heap.size) (o : Nat) (x : Value) (hc : (lcell v ia ms.length ic ba bc).setIfInBounds o x = lcell v' ia ms.length ic ba bc) (hi : v'.its = v.its) (hv : v'.b = v.b) : Lk w q (W.setCell ⟨w.heap.size + 1, o, none⟩ x) r v' ia ic ms ba bc := by
 have hs := h.size;have h9 := heap_setCell_same W (w.heap.size + 1) o _ _ x h.row;have ho := h.own.moved (W' := W.setCell ⟨w.heap.size + 1, o, none⟩ x) fun k h1 h2 => Below.heap_setCell _ _ _ k (by show k ≠ w.heap.size + 1; omega)
 refine h.turn hq ((Below.refl _ _).setCell (by simp) _) ?_ ⟨ho.own, ho.its.trans hi.symm, ho.bs, by rw [hv]; exact ho.b, by rw [hv]; exact ho.bl⟩;rw [h9]
 try simp only [Array.set!_eq_setIfInBounds]
 rw [hc]
theorem Lk.cells (h : Lk w q W r v ia ic ms ba bc) : (W.cell? ⟨w.heap.size + 1, 0, none⟩ = some (.int .i64 v.k) ∧ W.cell? ⟨w.heap.size + 1, 1, none⟩ = some (.int .i64 v.t) ∧ W.cell? ⟨w.heap.size + 1, 2, none⟩ = some (.int .i64 v.a) ∧ W.cell? ⟨w.heap.size + 1, 3, none⟩ = some (.int .i64 v.u) ∧ W.cell? ⟨w.heap.size + 1, 4, none⟩ = some (.int .i64 v.o) ∧ W.cell? ⟨w.heap.size + 1, 5, none⟩ = some (.bool v.y) ∧ W.cell? ⟨w.heap.size + 1, 6, none⟩ = some (.slice ia ms.length ic) ∧ W.cell? ⟨w.heap.size + 1, 7, none⟩ = some (.slice ba v.b.length bc)) ∧ (∀ o, W.frozen? ⟨w.heap.size + 1, o, none⟩ = false) ∧ W.cell? ⟨w.heap.size, 0, none⟩ = some (.pointer (some ⟨q, 0, none⟩)) :=
 ⟨letCells h.row, fun o => frozen_of_row _ _ _ _ _ h.row, cell_of_row W w.heap.size 0 _ _ _ h.box⟩
end
theorem letLook1 (q g : Nat) (l : List UInt8) (w : World) (h : EyeAt w q l) (hg : w.heap[g]? = some (.cells #[.pointer (some ⟨q, 0, none⟩)] 128 (0, 0))) :
  Calls Tryz.prog 123 #[.pointer (some ⟨g, 0, none⟩)] w fun e w' => EyeRead q (getNum 1099511627776 l) w w' e fun v => e = .returned (.int .i64 v) := by
 have c0 := cell_of_row w g 0 _ _ _ hg;obtain ⟨N, hN⟩ : ∃ N, N = getNum 1099511627776 l := ⟨_, rfl⟩
 rw [← hN];have HN := Hh hN;clear hN;go_enter Tryz.func123, Tryz.ntmps123
 go_wp2_with fail;refine (eyeNum q 1099511627776 l w h).mono ?_;rintro e w1 ⟨hb1, hr1⟩;rw [← HN.out] at hr1;have HB := Hh hb1;clear hb1;cases N with
 | err x =>
  obtain rfl : e = broke x := hr1;go_wp2;exact ⟨rfl, HB.out, rfl⟩
 | ok v r1 =>
  obtain ⟨rfl, heye1⟩ := hr1;have hv := getNum_most HN.out.symm;have wv : IntKind.i64.wrap (v : Int) = v := IntWalk.i64_in _ (by omega);have HE := Hh heye1;clear heye1 hv;go_wp2;go_ret;exact ⟨HB.out, rfl, HE.out⟩
theorem letLook2 (q g : Nat) (l : List UInt8) (w : World) (h : EyeAt w q l) (hg : w.heap[g]? = some (.cells #[.pointer (some ⟨q, 0, none⟩)] 128 (0, 0))) :
  Calls Tryz.prog 124 #[.pointer (some ⟨g, 0, none⟩)] w fun e w' => EyeRead q (getNum 1099511627776 l) w w' e fun v => e = .returned (.int .i64 v) := by
 have c0 := cell_of_row w g 0 _ _ _ hg;obtain ⟨N, hN⟩ : ∃ N, N = getNum 1099511627776 l := ⟨_, rfl⟩
 rw [← hN];have HN := Hh hN;clear hN;go_enter Tryz.func124, Tryz.ntmps124
 go_wp2_with fail;refine (eyeNum q 1099511627776 l w h).mono ?_;rintro e w1 ⟨hb1, hr1⟩;rw [← HN.out] at hr1;have HB := Hh hb1;clear hb1;cases N with
 | err x =>
  obtain rfl : e = broke x := hr1;go_wp2;exact ⟨rfl, HB.out, rfl⟩
 | ok v r1 =>
  obtain ⟨rfl, heye1⟩ := hr1;have hv := getNum_most HN.out.symm;have wv : IntKind.i64.wrap (v : Int) = v := IntWalk.i64_in _ (by omega);have HE := Hh heye1;clear heye1 hv;go_wp2;go_ret;exact ⟨HB.out, rfl, HE.out⟩
def LookTo (q : Nat) (N : Res PLet) (w : World) (e : Ending) (w' : World) : Prop :=
 But q w w' ∧ match N with
  | .err x => e = broke x
  | .ok v rest => ∃ ia ic ms ba bc, e = .returned (.agg (lcell v ia (List.length ms) ic ba bc)) ∧ EyeAt w' q rest ∧ LOwn w.heap.size w' v ia ic ms ba bc
set_option maxRecDepth 100000 in
set_option maxHeartbeats 4000000 in
theorem letterLook (q : Nat) (l : List UInt8) (w : World) (h : EyeAt w q l) :
  Calls Tryz.prog 119 #[.pointer (some ⟨q, 0, none⟩)] w (LookTo q (getLet l) w) := by
 obtain ⟨i0, hi, hz0, hz1, hz2⟩ := info_parts infoItem3;obtain ⟨N, hN⟩ : ∃ N, N = getLet l := ⟨_, rfl⟩
 rw [← hN];have HN0 := Hh (hN.trans (by rw [getLet]));have hq := h.1;obtain ⟨W0, hW0⟩ : ∃ W0, W0 = (w.alloc (.cells #[.pointer (some ⟨q, 0, none⟩)] 128)).alloc (.cells #[.int .i64 0, .int .i64 0, .int .i64 0, .int .i64 0, .int .i64 0, .bool false, .slice none 0 0, .slice none 0 0] 32) := ⟨_, rfl⟩
 have HW0 := Hh hW0;have hb0 : Below w.heap.size w W0 := by rw [hW0]; exact ((Below.refl _ _).alloc (Nat.le_refl _) _).alloc (by simp) _
 have HC0 := Hh (show Lk w q W0 l ⟨0, 0, 0, 0, 0, false, [], []⟩ none 0 [] none 0 from ⟨But.ofBelow hq hb0, h.below hb0, by rw [hW0]; simp, by
   rw [hW0];exact (((Below.refl _ _).alloc (Nat.le_refl (w.alloc (.cells #[.pointer (some ⟨q, 0, none⟩)] 128)).heap.size) _).block _ (by simp)).trans (heap_alloc_new w _), by
   rw [hW0];have h9 := heap_alloc_new (w.alloc (.cells #[.pointer (some ⟨q, 0, none⟩)] 128)) (.cells #[.int .i64 0, .int .i64 0, .int .i64 0, .int .i64 0, .int .i64 0, .bool false, .slice none 0 0, .slice none 0 0] 32);rw [show (w.alloc (.cells #[.pointer (some ⟨q, 0, none⟩)] 128)).heap.size = w.heap.size + 1 by simp] at h9;exact h9, ⟨⟨rfl, .inl ⟨rfl, rfl⟩⟩, rfl, by simp, ⟨rfl, .inl ⟨rfl, rfl⟩⟩, by simp⟩⟩)
 clear hN h hW0 hb0;go_enter Tryz.func119, Tryz.ntmps119
 go_wp2_with fail;rw [← HW0.out];refine (eyeNum q 5 l _ HC0.out.eye).mono ?_;rintro e w1 ⟨hb1, hr1⟩;cases hg1 : getNum 5 l with
 | err x =>
  rw [hg1] at hr1;obtain rfl : e = broke x := hr1;have hN : N = .err x := by rw [HN0.out, hg1]; rfl
  subst hN;have HB := Hh (HC0.out.but.trans hb1);clear hg1 hb1;go_wp2;exact ⟨rfl, HB.out, rfl⟩
 | ok k r1 =>
  rw [hg1] at hr1;obtain ⟨rfl, heye1⟩ := hr1;have hm1 := getNum_most hg1;have HN1 := Hh (show N = if k = 0 then .err 25 else (getNum 1099511627776 r1).bind fun t r2 =>
  if k = 1 then (getNum 1099511627776 r2).bind fun a r3 => (getNum 1099511627776 r3).bind fun u r4 => .ok ⟨1, t, a, u, 0, false, [], []⟩ r4
  else if k = 2 then (getNum 1 r2).bind fun y r3 => .ok ⟨2, t, 0, 0, 0, y == 1, [], []⟩ r3
  else if k = 3 then (getNum 1099511627776 r2).bind fun a r3 => (getNum 1099511627776 r3).bind fun u r4 => (getNum 1099511627776 r4).bind fun o r5 => (getNum 16 r5).bind fun n r6 => (getItems n r6).bind fun its r7 => .ok ⟨3, t, a, u, o, false, its, []⟩ r7
  else if k = 4 then (getNum 1 r2).bind fun y r3 => (getNum 1099511627776 r3).bind fun a r4 => (getNum 1099511627776 r4).bind fun o r5 => .ok ⟨4, t, a, 0, o, y == 1, [], []⟩ r5
  else (getNum 1099511627776 r2).bind fun a r3 => (getNum 1099511627776 r3).bind fun u r4 => (getText 65536 r4).bind fun b r5 => .ok ⟨5, t, a, u, 0, false, [], b⟩ r5 by rw [HN0.out, hg1]; rfl)
  have HC1 := Hh (HC0.out.step hq hb1 heye1);clear hg1 hb1 heye1;have wk : IntKind.i64.wrap (k : Int) = k := IntWalk.i64_in _ (by omega);obtain ⟨⟨c0, -, -, -, -, -, -, -⟩, ff, bx⟩ := HC1.out.cells;have f0 := ff 0;clear ff;by_cases hk0 : k = 0
  ·subst hk0;have HN9 := Hh (show N = .err 25 by rw [HN1.out]; rfl);have HC2 := Hh (HC1.out.set hq 0 (.int .i64 0) (v' := ⟨0, 0, 0, 0, 0, false, [], []⟩) rfl rfl rfl);go_wp2_with fail;refine (eyeFail_no _ 25 (by decide) _).mono ?_;rintro e w9 ⟨rfl, rfl⟩;have hN := HN9.out;subst hN;go_wp2;exact ⟨rfl, HC2.out.but, rfl⟩
  ·have hK : k = 1 ∨ k = 2 ∨ k = 3 ∨ k = 4 ∨ k = 5 := by omega
   have tk0 : ((k : Int) == 0) = false := by simp; omega
   have HN1b := Hh (show N = (getNum 1099511627776 r1).bind fun t r2 =>
    if k = 1 then (getNum 1099511627776 r2).bind fun a r3 => (getNum 1099511627776 r3).bind fun u r4 => .ok ⟨1, t, a, u, 0, false, [], []⟩ r4
    else if k = 2 then (getNum 1 r2).bind fun y r3 => .ok ⟨2, t, 0, 0, 0, y == 1, [], []⟩ r3
    else if k = 3 then (getNum 1099511627776 r2).bind fun a r3 => (getNum 1099511627776 r3).bind fun u r4 => (getNum 1099511627776 r4).bind fun o r5 => (getNum 16 r5).bind fun n r6 => (getItems n r6).bind fun its r7 => .ok ⟨3, t, a, u, o, false, its, []⟩ r7
    else if k = 4 then (getNum 1 r2).bind fun y r3 => (getNum 1099511627776 r3).bind fun a r4 => (getNum 1099511627776 r4).bind fun o r5 => .ok ⟨4, t, a, 0, o, y == 1, [], []⟩ r5
    else (getNum 1099511627776 r2).bind fun a r3 => (getNum 1099511627776 r3).bind fun u r4 => (getText 65536 r4).bind fun b r5 => .ok ⟨5, t, a, u, 0, false, [], b⟩ r5 by rw [HN1.out, if_neg hk0])
   have HC1b := Hh (HC1.out.set hq 0 (.int .i64 k) (v' := ⟨k, 0, 0, 0, 0, false, [], []⟩) rfl rfl rfl);go_wp2_with fail;clear c0 f0 bx;obtain ⟨w1b, hw1b⟩ : ∃ W, W = w1.setCell ⟨w.heap.size + 1, 0, none⟩ (.int .i64 k) := ⟨_, rfl⟩
   rw [← hw1b] at HC1b ⊢;clear hw1b;refine (letLook2 q w.heap.size r1 _ HC1b.out.eye HC1b.out.box).mono ?_;rintro e w2 ⟨hb2, hr2⟩;cases hg2 : getNum 1099511627776 r1 with
   | err x =>
    rw [hg2] at hr2;obtain rfl : e = broke x := hr2;have hN : N = .err x := by rw [HN1b.out, hg2]; rfl
    subst hN;have HB := Hh (HC1b.out.but.trans hb2);clear hg2 hb2;go_wp2;exact ⟨rfl, HB.out, rfl⟩
   | ok t r2 =>
    rw [hg2] at hr2;obtain ⟨rfl, heye2⟩ := hr2;have hm2 := getNum_most hg2;have HN2 := Hh (show N = if k = 1 then (getNum 1099511627776 r2).bind fun a r3 => (getNum 1099511627776 r3).bind fun u r4 => .ok ⟨1, t, a, u, 0, false, [], []⟩ r4
     else if k = 2 then (getNum 1 r2).bind fun y r3 => .ok ⟨2, t, 0, 0, 0, y == 1, [], []⟩ r3
     else if k = 3 then (getNum 1099511627776 r2).bind fun a r3 => (getNum 1099511627776 r3).bind fun u r4 => (getNum 1099511627776 r4).bind fun o r5 => (getNum 16 r5).bind fun n r6 => (getItems n r6).bind fun its r7 => .ok ⟨3, t, a, u, o, false, its, []⟩ r7
     else if k = 4 then (getNum 1 r2).bind fun y r3 => (getNum 1099511627776 r3).bind fun a r4 => (getNum 1099511627776 r4).bind fun o r5 => .ok ⟨4, t, a, 0, o, y == 1, [], []⟩ r5
     else (getNum 1099511627776 r2).bind fun a r3 => (getNum 1099511627776 r3).bind fun u r4 => (getText 65536 r4).bind fun b r5 => .ok ⟨5, t, a, u, 0, false, [], b⟩ r5 by rw [HN1b.out, hg2]; rfl)
    have HC2 := Hh (HC1b.out.step hq hb2 heye2);clear hg2 hb2 heye2;have HC3 := Hh (HC2.out.set hq 1 (.int .i64 t) (v' := ⟨k, t, 0, 0, 0, false, [], []⟩) rfl rfl rfl);obtain ⟨⟨c0, -, -, -, -, -, -, -⟩, ff, bx⟩ := HC2.out.cells;have f1 := ff 1;clear ff;have c1 := HC2.out.cells.1.2.1;clear HN0 HN1 HN1b HC0 HC1 HC1b hm1 tk0 hk0 wk;rcases hK with rfl | rfl | rfl | rfl | rfl
    ·have HN3 := Hh (show N = (getNum 1099511627776 r2).bind fun a r3 => (getNum 1099511627776 r3).bind fun u r4 => .ok ⟨1, t, a, u, 0, false, [], []⟩ r4 from HN2.out);have r3 := r2;go_wp2_with fail;clear c0 c1 f1 bx;obtain ⟨w3, hw3⟩ : ∃ W, W = w2.setCell ⟨w.heap.size + 1, 1, none⟩ (.int .i64 t) := ⟨_, rfl⟩
     rw [← hw3] at HC3 ⊢;clear hw3;refine (letLook1 q w.heap.size r2 _ HC3.out.eye HC3.out.box).mono ?_;rintro e w4 ⟨hb4, hr4⟩;cases hg4 : getNum 1099511627776 r2 with
     | err x =>
      rw [hg4] at hr4;obtain rfl : e = broke x := hr4;have hN : N = .err x := by rw [HN3.out, hg4]; rfl
      subst hN;have HB := Hh (HC3.out.but.trans hb4);clear hg4 hb4;go_wp2;exact ⟨rfl, HB.out, rfl⟩
     | ok a r4 =>
      rw [hg4] at hr4;obtain ⟨rfl, heye4⟩ := hr4;have hm4 := getNum_most hg4;have HN4 := Hh (show N = (getNum 1099511627776 r4).bind fun u r4 => .ok ⟨1, t, a, u, 0, false, [], []⟩ r4 by rw [HN3.out, hg4]; rfl);have HC4 := Hh (HC3.out.step hq hb4 heye4);clear hg4 hb4 heye4;go_wp2_with fail;refine (letLook2 q w.heap.size r4 _ HC4.out.eye HC4.out.box).mono ?_;rintro e w5 ⟨hb5, hr5⟩;cases hg5 : getNum 1099511627776 r4 with
      | err x =>
       rw [hg5] at hr5;obtain rfl : e = broke x := hr5;have hN : N = .err x := by rw [HN4.out, hg5]; rfl
       subst hN;have HB := Hh (HC4.out.but.trans hb5);clear hg5 hb5;go_wp2;exact ⟨rfl, HB.out, rfl⟩
      | ok u r5 =>
       rw [hg5] at hr5;obtain ⟨rfl, heye5⟩ := hr5;have hm5 := getNum_most hg5;have HN5 := Hh (show N = (.ok ⟨1, t, a, u, 0, false, [], []⟩ r5 : Res PLet) by rw [HN4.out, hg5]; rfl);have HC5 := Hh (HC4.out.step hq hb5 heye5);clear hg5 hb5 heye5;have HCF := Hh ((HC5.out.set hq 2 (.int .i64 a) (v' := ⟨1, t, a, 0, 0, false, [], []⟩) rfl rfl rfl).set hq 3 (.int .i64 u) (v' := ⟨1, t, a, u, 0, false, [], []⟩) rfl rfl rfl);have hN := HN5.out;subst hN;obtain ⟨⟨c0, c1, c2, c3, c4, c5, c6, c7⟩, ff, -⟩ := HC5.out.cells;have f2 := ff 2;have f3 := ff 3;clear ff;go_wp2_with (refine wpList_store_abs rfl 32 (.tmp 2) (.tmp 87) rfl (w.heap.size + 1) _ rfl rfl 32 _ (HCF.out.row) infoLetter rfl (by simp [Value.oneCell']) ?_; intro W9 hrow9 hoth9 hb9 hs9);have hsF := HCF.out.size;have HKF := Hh (HCF.out.turn hq (W' := W9) (hb9) hrow9 (HCF.out.own.moved fun k h1 h2 => hoth9 k (by omega)));refine bodyPost_ret (results_cell_row rfl _ _ (w.heap.size + 1) 32 _ (0, 0) _ rfl hrow9 Tryz.underlying32 rfl infoLetter) rfl ?_;exact ⟨HKF.out.but, none, 0, ([] : List MItem), none, 0, rfl, HKF.out.eye, HKF.out.own.mono (by omega)⟩
    ·have HN3 := Hh (show N = (getNum 1 r2).bind fun y r3 => .ok ⟨2, t, 0, 0, 0, y == 1, [], []⟩ r3 from HN2.out);have bx3 := HC3.out.cells.2.2;go_wp2_with fail;clear bx3;clear c0 c1 f1 bx;obtain ⟨w3, hw3⟩ : ∃ W, W = w2.setCell ⟨w.heap.size + 1, 1, none⟩ (.int .i64 t) := ⟨_, rfl⟩
     rw [← hw3] at HC3 ⊢;clear hw3;refine (eyeNum q 1 r2 _ HC3.out.eye).mono ?_;rintro e w4 ⟨hb4, hr4⟩;cases hg4 : getNum 1 r2 with
     | err x =>
      rw [hg4] at hr4;obtain rfl : e = broke x := hr4;have hN : N = .err x := by rw [HN3.out, hg4]; rfl
      subst hN;have HB := Hh (HC3.out.but.trans hb4);clear hg4 hb4;go_wp2;exact ⟨rfl, HB.out, rfl⟩
     | ok y r4 =>
      rw [hg4] at hr4;obtain ⟨rfl, heye4⟩ := hr4;have hm4 := getNum_most hg4;have HN4 := Hh (show N = (.ok ⟨2, t, 0, 0, 0, y == 1, [], []⟩ r4 : Res PLet) by rw [HN3.out, hg4]; rfl);have HC4 := Hh (HC3.out.step hq hb4 heye4);clear hg4 hb4 heye4;have ty : ((y : Int) == 1) = (y == 1) := by rw [Bool.eq_iff_iff]; simp; omega
      have HCF := Hh (HC4.out.set hq 5 (.bool (y == 1)) (v' := ⟨2, t, 0, 0, 0, y == 1, [], []⟩) rfl rfl rfl);have hN := HN4.out;subst hN;obtain ⟨⟨c0, c1, c2, c3, c4, c5, c6, c7⟩, ff, -⟩ := HC4.out.cells;have f5 := ff 5;clear ff;go_wp2_with (refine wpList_store_abs rfl 32 (.tmp 2) (.tmp 87) rfl (w.heap.size + 1) _ rfl rfl 32 _ (HCF.out.row) infoLetter rfl (by simp [Value.oneCell']) ?_; intro W9 hrow9 hoth9 hb9 hs9);have hsF := HCF.out.size;have HKF := Hh (HCF.out.turn hq (W' := W9) (hb9) hrow9 (HCF.out.own.moved fun k h1 h2 => hoth9 k (by omega)));refine bodyPost_ret (results_cell_row rfl _ _ (w.heap.size + 1) 32 _ (0, 0) _ rfl hrow9 Tryz.underlying32 rfl infoLetter) rfl ?_;exact ⟨HKF.out.but, none, 0, ([] : List MItem), none, 0, rfl, HKF.out.eye, HKF.out.own.mono (by omega)⟩
    ·have HN3 := Hh (show N = (getNum 1099511627776 r2).bind fun a r3 => (getNum 1099511627776 r3).bind fun u r4 => (getNum 1099511627776 r4).bind fun o r5 => (getNum 16 r5).bind fun n r6 => (getItems n r6).bind fun its r7 => .ok ⟨3, t, a, u, o, false, its, []⟩ r7 from HN2.out);go_wp2_with fail;clear c0 c1 f1 bx;obtain ⟨w3, hw3⟩ : ∃ W, W = w2.setCell ⟨w.heap.size + 1, 1, none⟩ (.int .i64 t) := ⟨_, rfl⟩
     rw [← hw3] at HC3 ⊢;clear hw3;refine (letLook1 q w.heap.size r2 _ HC3.out.eye HC3.out.box).mono ?_;rintro e w4 ⟨hb4, hr4⟩;cases hg4 : getNum 1099511627776 r2 with
     | err x =>
      rw [hg4] at hr4;obtain rfl : e = broke x := hr4;have hN : N = .err x := by rw [HN3.out, hg4]; rfl
      subst hN;have HB := Hh (HC3.out.but.trans hb4);clear hg4 hb4;go_wp2;exact ⟨rfl, HB.out, rfl⟩
     | ok a r4 =>
      rw [hg4] at hr4;obtain ⟨rfl, heye4⟩ := hr4;have hm4 := getNum_most hg4;have HN4 := Hh (show N = (getNum 1099511627776 r4).bind fun u r4 => (getNum 1099511627776 r4).bind fun o r5 => (getNum 16 r5).bind fun n r6 => (getItems n r6).bind fun its r7 => .ok ⟨3, t, a, u, o, false, its, []⟩ r7 by rw [HN3.out, hg4]; rfl);have HC4 := Hh (HC3.out.step hq hb4 heye4);clear hg4 hb4 heye4;go_wp2_with fail;refine (letLook2 q w.heap.size r4 _ HC4.out.eye HC4.out.box).mono ?_;rintro e w5 ⟨hb5, hr5⟩;cases hg5 : getNum 1099511627776 r4 with
      | err x =>
       rw [hg5] at hr5;obtain rfl : e = broke x := hr5;have hN : N = .err x := by rw [HN4.out, hg5]; rfl
       subst hN;have HB := Hh (HC4.out.but.trans hb5);clear hg5 hb5;go_wp2;exact ⟨rfl, HB.out, rfl⟩
      | ok u r5 =>
       rw [hg5] at hr5;obtain ⟨rfl, heye5⟩ := hr5;have hm5 := getNum_most hg5;have HN5 := Hh (show N = (getNum 1099511627776 r5).bind fun o r5 => (getNum 16 r5).bind fun n r6 => (getItems n r6).bind fun its r7 => .ok ⟨3, t, a, u, o, false, its, []⟩ r7 by rw [HN4.out, hg5]; rfl);have HC5 := Hh (HC4.out.step hq hb5 heye5);clear hg5 hb5 heye5;go_wp2_with fail;refine (letLook1 q w.heap.size r5 _ HC5.out.eye HC5.out.box).mono ?_;rintro e w6 ⟨hb6, hr6⟩;cases hg6 : getNum 1099511627776 r5 with
       | err x =>
        rw [hg6] at hr6;obtain rfl : e = broke x := hr6;have hN : N = .err x := by rw [HN5.out, hg6]; rfl
        subst hN;have HB := Hh (HC5.out.but.trans hb6);clear hg6 hb6;go_wp2;exact ⟨rfl, HB.out, rfl⟩
       | ok o r6 =>
        rw [hg6] at hr6;obtain ⟨rfl, heye6⟩ := hr6;have hm6 := getNum_most hg6;have HN6 := Hh (show N = (getNum 16 r6).bind fun n r6 => (getItems n r6).bind fun its r7 => .ok ⟨3, t, a, u, o, false, its, []⟩ r7 by rw [HN5.out, hg6]; rfl);have HC6 := Hh (HC5.out.step hq hb6 heye6);clear hg6 hb6 heye6;have HC7 := Hh (((HC6.out.set hq 2 (.int .i64 a) (v' := ⟨3, t, a, 0, 0, false, [], []⟩) rfl rfl rfl).set hq 3 (.int .i64 u) (v' := ⟨3, t, a, u, 0, false, [], []⟩) rfl rfl rfl).set hq 4 (.int .i64 o) (v' := ⟨3, t, a, u, o, false, [], []⟩) rfl rfl rfl);have HN7 := HN6;obtain ⟨⟨-, -, c2, c3, c4, -, -, -⟩, ff, bx⟩ := HC6.out.cells;have f2 := ff 2;have f3 := ff 3;have f4 := ff 4;clear ff;go_wp2_with fail;clear c2 c3 c4 f2 f3 f4 bx;obtain ⟨w7, hw7⟩ : ∃ W, W = ((w6.setCell ⟨w.heap.size + 1, 2, none⟩ (.int .i64 a)).setCell ⟨w.heap.size + 1, 3, none⟩ (.int .i64 u)).setCell ⟨w.heap.size + 1, 4, none⟩ (.int .i64 o) := ⟨_, rfl⟩
        rw [← hw7] at HC7 ⊢;clear hw7;refine (eyeNum q 16 r6 _ HC7.out.eye).mono ?_;rintro e w8 ⟨hb8, hr8⟩;cases hg8 : getNum 16 r6 with
        | err x =>
         rw [hg8] at hr8;obtain rfl : e = broke x := hr8;have hN : N = .err x := by rw [HN7.out, hg8]; rfl
         subst hN;have HB := Hh (HC7.out.but.trans hb8);clear hg8 hb8;go_wp2;exact ⟨rfl, HB.out, rfl⟩
        | ok n r8 =>
         rw [hg8] at hr8;obtain ⟨rfl, heye8⟩ := hr8;have hm8 := getNum_most hg8;have HN8 := Hh (show N = (getItems n r8).bind fun its r7 => .ok ⟨3, t, a, u, o, false, its, []⟩ r7 by rw [HN7.out, hg8]; rfl);have HC8 := Hh (HC7.out.step hq hb8 heye8);clear hg8 hb8 heye8;go_wp2_with fail;go_loopw [49] (fun kv wr => ∃ (k : Nat) (r : List UInt8) (its : List PItem) (la : Option Addr) (lc : Nat) (ms : List MItem), kv = .int .u64 k ∧ k ≤ n ∧ ms.length = k ∧ N = ((getItems (n - k) r).bind fun l r' => .ok ⟨3, t, a, u, o, false, its ++ l, []⟩ r') ∧ Lk w q wr r ⟨3, t, a, u, o, false, its, []⟩ la lc ms none 0) (fun kv _ => n - (intOf kv).toNat)
         case atStart => exact ⟨0, r8, [], none, 0, [], rfl, by omega, rfl, by rw [HN8.out]; rfl, HC8.out⟩
         case round =>
          obtain ⟨k, r, its, la, lc, ms, rfl, hk, hmk, hNk, hck⟩ := hrel;have HNK := Hh hNk;have HCK := Hh hck;have HMK := Hh hmk;have hml : ms.length ≤ 16 := by omega
          have hsr := hck.size;clear hNk hck hmk;by_cases hkn : k < n
          ·have tk : decide ((k : Int) < (n : Int)) = true := by simpa using hkn
           have hk1 : n - k = (n - (k + 1)) + 1 := by omega
           go_wp2_with fail;refine (letLook2 q w.heap.size r _ HCK.out.eye HCK.out.box).mono ?_;rintro e w16 ⟨hb6, hr6⟩;cases hg6 : getNum 1099511627776 r with
           | err x =>
            rw [hg6] at hr6;obtain rfl : e = broke x := hr6;have hN : N = .err x := by rw [HNK.out, hk1, getItems, hg6]; rfl
            subst hN;have HB := Hh (HCK.out.but.trans hb6);clear hg6 hb6 hk1;go_wp2;exact ⟨rfl, HB.out, rfl⟩
           | ok z r6 =>
            rw [hg6] at hr6;obtain ⟨rfl, heye6⟩ := hr6;have hz9 := getNum_most hg6;have HC6' := Hh (HCK.out.step hq hb6 heye6);have HNK6 := Hh (show N = (getText 8192 r6).bind fun v r7 => (getItems (n - (k + 1)) r7).bind fun l r' => .ok ⟨3, t, a, u, o, false, its ++ (((z : Int), v) :: l), []⟩ r' from by
             rw [HNK.out, hk1, getItems, hg6, Res.bind_ok];cases hx : getText 8192 r6 with
             | err x => rfl
             | ok v7 r7 =>
              simp only [Res.bind_ok];cases hy : getItems (n - (k + 1)) r7 <;> rfl)
            obtain ⟨W7, hW7⟩ : ∃ W7, W7 = w16.alloc (.cells #[.int .i64 z, .slice none 0 0] 40) := ⟨_, rfl⟩
            have HW7 := Hh hW7;have hb7 : Below w16.heap.size w16 W7 := by rw [hW7]; exact (Below.refl _ _).alloc (Nat.le_refl _) _
            have hr7 : W7.heap[w16.heap.size]? = some (.cells #[.int .i64 z, .slice none 0 0] 40 (0, 0)) := by rw [hW7]; exact heap_alloc_new _ _
            have hs7 : W7.heap.size = w16.heap.size + 1 := by rw [hW7]; simp
            have hs6 := HC6'.out.size;have HC7' := Hh (HC6'.out.below hq hb7);have HB7 := Hh hb7;have HR7 := Hh hr7;have bx : (w16.alloc (.cells #[.int .i64 z, .slice none 0 0] 40)).cell? ⟨w.heap.size, 0, none⟩ = some (.pointer (some ⟨q, 0, none⟩)) := by rw [← hW7]; exact HC7'.out.cells.2.2
            clear hg6 hb6 heye6 hW7 hb7 hr7 hk1;go_wp2_with fail;rw [← HW7.out];refine (eyeText q 8192 _ _ HC7'.out.eye (by omega)).mono ?_;rintro e w18 ⟨hb8, hr8⟩;cases hg8 : getText 8192 r6 with
            | err x =>
             rw [hg8] at hr8;obtain rfl : e = broke x := hr8;have hN : N = .err x := by rw [HNK6.out, hg8]; rfl
             subst hN;have HB := Hh (HC7'.out.but.trans hb8);clear hg8 hb8 bx;go_wp2;exact ⟨rfl, HB.out, rfl⟩
            | ok v r8' =>
             rw [hg8] at hr8;obtain ⟨⟨va, vc, rfl, hbv, hov⟩, heye8⟩ := hr8;have hv8 : v.length ≤ 8192 := (text_put hg8).2;have HN8' := Hh (show N = (getItems (n - (k + 1)) r8').bind fun l r' => .ok ⟨3, t, a, u, o, false, its ++ (((z : Int), v) :: l), []⟩ r' from by rw [HNK6.out, hg8]; rfl);have hrow8 := (hb8.block w16.heap.size (by omega) (by omega)).trans HR7.out;have hs8 := hb8.size;have c1 : w18.cell? ⟨w16.heap.size, 1, none⟩ = some (.slice none 0 0) := cell_of_row w18 w16.heap.size 1 _ _ _ hrow8;have f1 : w18.frozen? ⟨w16.heap.size, 1, none⟩ = false := frozen_of_row _ _ _ _ _ hrow8;have HC8' := Hh (HC7'.out.step hq hb8 heye8);obtain ⟨W9, hW9⟩ : ∃ W9, W9 = w18.setCell ⟨w16.heap.size, 1, none⟩ (.slice va v.length vc) := ⟨_, rfl⟩
             have hs9 : W9.heap.size = w18.heap.size := by rw [hW9]; simp
             have hb9 : Below w16.heap.size w18 W9 := by rw [hW9]; exact (Below.refl _ _).setCell (by simp) _
             have ho9 : ∀ j, j ≠ w16.heap.size → W9.heap[j]? = w18.heap[j]? := fun j hj => by rw [hW9]; exact Below.heap_setCell _ _ _ j hj
             have hr9 : W9.heap[w16.heap.size]? = some (.cells #[.int .i64 z, .slice va v.length vc] 40 (0, 0)) := by
              rw [hW9];have h9 := heap_setCell_same w18 w16.heap.size 1 _ _ (.slice va v.length vc) hrow8;simpa using h9
             have HLN9 := Hh (show LOwn (w.heap.size + 2) W9 ⟨3, t, a, u, o, false, its, []⟩ la lc ms none 0 from HC6'.out.own.moved fun j h1 h2 => (ho9 j (by omega)).trans ((hb8.block j (by omega) (by omega)).trans (HB7.out.block j h2)));have HC9 := Hh (show Lk w q W9 r8' ⟨3, t, a, u, o, false, its, []⟩ la lc ms none 0 from HC8'.out.turn hq (hb9.mono (by omega)) ((ho9 _ (by omega)).trans HC8'.out.row) HLN9.out);have HOV9 := Hh (own_mv hov (w' := W9) fun g cur hg _ => ho9 g (by have := (own_lt hov hg).1; omega));obtain ⟨W10, hW10⟩ : ∃ W10, W10 = W9.alloc (.cells #[.int .i64 z, .slice va v.length vc] 40) := ⟨_, rfl⟩
             have hb10 : Below W9.heap.size W9 W10 := by rw [hW10]; exact (Below.refl _ _).alloc (Nat.le_refl _) _
             have hs10 : W10.heap.size = W9.heap.size + 1 := by rw [hW10]; simp
             have HSI := Hh (show SlAt W10 W10.heap.size 2 (some ⟨w18.heap.size, 0, none⟩) 1 1 [.int .i64 z, .slice va v.length vc] from by
              rw [hs10, hW10, ← hs9];exact slAt_item W9 #[.int .i64 z, .slice va v.length vc] 40 2 rfl)
             have HC10 := Hh (HC9.out.below hq hb10);have e0 : (w18.setCell ⟨w16.heap.size, 1, none⟩ (.slice va v.length vc)).cell? ⟨w16.heap.size, 0, none⟩ = some (.int .i64 z) := by rw [← hW9]; exact cell_of_row W9 w16.heap.size 0 _ _ _ hr9
             have e1 : (w18.setCell ⟨w16.heap.size, 1, none⟩ (.slice va v.length vc)).cell? ⟨w16.heap.size, 1, none⟩ = some (.slice va v.length vc) := by rw [← hW9]; exact cell_of_row W9 w16.heap.size 1 _ _ _ hr9
             have e6 : (w18.setCell ⟨w16.heap.size, 1, none⟩ (.slice va v.length vc)).cell? ⟨w.heap.size + 1, 6, none⟩ = some (.slice la ms.length lc) := by rw [← hW9]; exact HC9.out.cells.1.2.2.2.2.2.2.1
             have HW9 := Hh hW9;have HW10 := Hh hW10;have HB10 := Hh hb10;have hs9a : W9.heap.size ≤ w18.heap.size := by omega
             have hs9b : w18.heap.size ≤ W9.heap.size := by omega
             have hs10a : W10.heap.size ≤ W9.heap.size + 1 := by omega
             have hs10b : W9.heap.size + 1 ≤ W10.heap.size := by omega
             clear hg8 hb8 hbv hov heye8 hrow8 bx hb9 ho9 hr9 hW9 hW10 hb10 hs9 hs10;go_wp2_with (at_builtin; (rw [← HW9.out, ← HW10.out]); go_must (refine wpList_append_sl _ rfl (.tmp 58) (.tmp 60) 30 rfl (w.heap.size + 2) 40 i0 (.agg #[.int .i64 0, .slice none 0 0]) 2 32 Tryz.underlying30 hi hz0 hz1 hz2 rfl (by decide) (.slice la ms.length lc) ms.length (cellsM ms) rfl HC10.out.own.own W10.heap.size (some ⟨w18.heap.size, 0, none⟩) 1 1 [.int .i64 z, .slice va v.length vc] rfl HSI.out (by intro u hu; simp at hu; rcases hu with rfl | rfl <;> rfl) (by unfold maxLen; omega) (by omega) (by omega) ?_); intro a11 c11 W11 o11 g11 _; have hfar : ∀ j, j < w.heap.size + 2 → W11.heap[j]? = W10.heap[j]? := fun j hj => g11.block j (by omega) (fun e => by have := (own_lt HC10.out.own.own e.symm).1; omega); have e6 : W11.cell? ⟨w.heap.size + 1, 6, none⟩ = some (.slice la ms.length lc) := (World.cell?_of_block (a := ⟨w.heap.size + 1, 6, none⟩) (hfar (w.heap.size + 1) (by omega))).trans HC10.out.cells.1.2.2.2.2.2.2.1; have f6 : W11.frozen? ⟨w.heap.size + 1, 6, none⟩ = false := frozen_of_row _ _ _ _ _ ((hfar (w.heap.size + 1) (by omega)).trans HC10.out.row));have hb11 : Below (w.heap.size + 2) W10 W11 := ⟨g11.os, g11.tape, g11.output, g11.size, hfar⟩
             have h9 := heap_setCell_same W11 (w.heap.size + 1) 6 _ _ (.slice a11 (ms.length + 1) c11) ((hfar (w.heap.size + 1) (by omega)).trans HC10.out.row);obtain ⟨W12, hW12⟩ : ∃ W12, W12 = W11.setCell ⟨w.heap.size + 1, 6, none⟩ (.slice a11 (ms.length + 1) c11) := ⟨_, rfl⟩
             rw [← hW12] at h9;have hb12 : Below (w.heap.size + 1) W11 W12 := by rw [hW12]; exact (Below.refl _ _).setCell (by simp) _
             have ho12 : ∀ j, j ≠ w.heap.size + 1 → W12.heap[j]? = W11.heap[j]? := fun j hj => by rw [hW12]; exact Below.heap_setCell _ _ _ j hj
             have hbyt : ∀ (m : MItem) (B : Nat), w.heap.size + 2 ≤ B → W9.ownsRow B 5 1 (.slice m.a m.n m.c) m.n (m.b.map bv) → W12.ownsRow (w.heap.size + 2) 5 1 (.slice m.a m.n m.c) m.n (m.b.map bv) := fun m B hB h9 => by
              refine World.ownsRow.mono (own_mv h9 fun g cur hg hc => ?_) hB;have h8 := own_lt h9 hg;refine (ho12 g (by omega)).trans ((g11.block g (by omega) (fun e => ?_)).trans (HB10.out.block g (by omega)));obtain ⟨cur', h7⟩ := own_block HC9.out.own.own e.symm;exact ty_ne9 h7 hc ne_types.2.1
             have HC12 := Hh (show Lk w q W12 r8' ⟨3, t, a, u, o, false, its ++ [((z : Int), v)], []⟩ a11 c11 (ms ++ [⟨z, va, v.length, vc, v⟩]) none 0 from by
              refine HC10.out.turn hq ((hb11.mono (by omega)).trans hb12) ?_ ⟨?_, by simp [HC9.out.own.its], fun m hm => ?_, ⟨rfl, .inl ⟨rfl, rfl⟩⟩, by simp⟩
              ·rw [h9]; simp
              ·rw [cellsM_append];rw [show (ms ++ [(⟨z, va, v.length, vc, v⟩ : MItem)]).length = ms.length + 1 by simp];exact own_mv o11 fun g cur hg _ => ho12 g (by have := (own_lt o11 hg).1; omega)
              ·simp only [List.mem_append, List.mem_singleton] at hm;rcases hm with hm | rfl
               ·exact ⟨(HC9.out.own.bs m hm).1, hbyt m _ (Nat.le_refl _) (HC9.out.own.bs m hm).2⟩
               ·exact ⟨hv8, hbyt ⟨z, va, v.length, vc, v⟩ W7.heap.size (by omega) HOV9.out⟩)
             have HNN := Hh (show N = ((getItems (n - (k + 1)) r8').bind fun l r' => .ok ⟨3, t, a, u, o, false, (its ++ [((z : Int), v)]) ++ l, []⟩ r') from by
              rw [HN8'.out]
              congr 1
              funext l r'
              simp)
             have HMK2 := Hh (show (ms ++ [(⟨z, va, v.length, vc, v⟩ : MItem)]).length = k + 1 by simp [HMK.out]);rw [hW12] at HC12;clear hb11 h9 hW12 hb12 ho12 hbyt hfar;go_roundw
             case rel => exact ⟨k + 1, r8', its ++ [((z : Int), v)], a11, c11, ms ++ [⟨z, va, v.length, vc, v⟩], by go_num, hkn, HMK2.out, HNN.out, HC12.out⟩
             case measure => simp [intOf]; omega
          ·have tk : decide ((k : Int) < (n : Int)) = false := by simpa using hkn
           have hke : k = n := by omega
           subst hke;have hN : N = .ok ⟨3, t, a, u, o, false, its, []⟩ r := by rw [HNK.out, Nat.sub_self]; simp [getItems]
           subst hN;have HCF := HCK;clear hkn;obtain ⟨⟨c0, c1, c2, c3, c4, c5, c6, c7⟩, ff, -⟩ := HCK.out.cells;clear ff;go_wp2_with (refine wpList_store_abs rfl 32 (.tmp 2) (.tmp 87) rfl (w.heap.size + 1) _ rfl rfl 32 _ (HCF.out.row) infoLetter rfl (by simp [Value.oneCell']) ?_; intro W9 hrow9 hoth9 hb9 hs9);have hsF := HCF.out.size;have HKF := Hh (HCF.out.turn hq (W' := W9) (hb9) hrow9 (HCF.out.own.moved fun k h1 h2 => hoth9 k (by omega)));refine bodyPost_ret (results_cell_row rfl _ _ (w.heap.size + 1) 32 _ (0, 0) _ rfl hrow9 Tryz.underlying32 rfl infoLetter) rfl ?_;exact ⟨HKF.out.but, la, lc, ms, none, 0, rfl, HKF.out.eye, HKF.out.own.mono (by omega)⟩
    ·have HN3 := Hh (show N = (getNum 1 r2).bind fun y r3 => (getNum 1099511627776 r3).bind fun a r4 => (getNum 1099511627776 r4).bind fun o r5 => .ok ⟨4, t, a, 0, o, y == 1, [], []⟩ r5 from HN2.out);have bx3 := HC3.out.cells.2.2;go_wp2_with fail;clear bx3;clear c0 c1 f1 bx;obtain ⟨w3, hw3⟩ : ∃ W, W = w2.setCell ⟨w.heap.size + 1, 1, none⟩ (.int .i64 t) := ⟨_, rfl⟩
     rw [← hw3] at HC3 ⊢;clear hw3;refine (eyeNum q 1 r2 _ HC3.out.eye).mono ?_;rintro e w4 ⟨hb4, hr4⟩;cases hg4 : getNum 1 r2 with
     | err x =>
      rw [hg4] at hr4;obtain rfl : e = broke x := hr4;have hN : N = .err x := by rw [HN3.out, hg4]; rfl
      subst hN;have HB := Hh (HC3.out.but.trans hb4);clear hg4 hb4;go_wp2;exact ⟨rfl, HB.out, rfl⟩
     | ok y r4 =>
      rw [hg4] at hr4;obtain ⟨rfl, heye4⟩ := hr4;have hm4 := getNum_most hg4;have HN4 := Hh (show N = (getNum 1099511627776 r4).bind fun a r4 => (getNum 1099511627776 r4).bind fun o r5 => .ok ⟨4, t, a, 0, o, y == 1, [], []⟩ r5 by rw [HN3.out, hg4]; rfl);have HC4 := Hh (HC3.out.step hq hb4 heye4);clear hg4 hb4 heye4;have ty : ((y : Int) == 1) = (y == 1) := by rw [Bool.eq_iff_iff]; simp; omega
      have HC5 := Hh (HC4.out.set hq 5 (.bool (y == 1)) (v' := ⟨4, t, 0, 0, 0, y == 1, [], []⟩) rfl rfl rfl);have HN5 := HN4;obtain ⟨⟨-, -, -, -, -, c5, -, -⟩, ff, bx⟩ := HC4.out.cells;have f5 := ff 5;clear ff;go_wp2_with fail;clear c5 f5 bx;obtain ⟨w5, hw5⟩ : ∃ W, W = w4.setCell ⟨w.heap.size + 1, 5, none⟩ (.bool (y == 1)) := ⟨_, rfl⟩
      rw [← hw5] at HC5 ⊢;clear hw5;refine (letLook1 q w.heap.size r4 _ HC5.out.eye HC5.out.box).mono ?_;rintro e w6 ⟨hb6, hr6⟩;cases hg6 : getNum 1099511627776 r4 with
      | err x =>
       rw [hg6] at hr6;obtain rfl : e = broke x := hr6;have hN : N = .err x := by rw [HN5.out, hg6]; rfl
       subst hN;have HB := Hh (HC5.out.but.trans hb6);clear hg6 hb6;go_wp2;exact ⟨rfl, HB.out, rfl⟩
      | ok a r6 =>
       rw [hg6] at hr6;obtain ⟨rfl, heye6⟩ := hr6;have hm6 := getNum_most hg6;have HN6 := Hh (show N = (getNum 1099511627776 r6).bind fun o r5 => .ok ⟨4, t, a, 0, o, y == 1, [], []⟩ r5 by rw [HN5.out, hg6]; rfl);have HC6 := Hh (HC5.out.step hq hb6 heye6);clear hg6 hb6 heye6;go_wp2_with fail;refine (letLook1 q w.heap.size r6 _ HC6.out.eye HC6.out.box).mono ?_;rintro e w7 ⟨hb7, hr7⟩;cases hg7 : getNum 1099511627776 r6 with
       | err x =>
        rw [hg7] at hr7;obtain rfl : e = broke x := hr7;have hN : N = .err x := by rw [HN6.out, hg7]; rfl
        subst hN;have HB := Hh (HC6.out.but.trans hb7);clear hg7 hb7;go_wp2;exact ⟨rfl, HB.out, rfl⟩
       | ok o r7 =>
        rw [hg7] at hr7;obtain ⟨rfl, heye7⟩ := hr7;have hm7 := getNum_most hg7;have HN7 := Hh (show N = (.ok ⟨4, t, a, 0, o, y == 1, [], []⟩ r7 : Res PLet) by rw [HN6.out, hg7]; rfl);have HC7 := Hh (HC6.out.step hq hb7 heye7);clear hg7 hb7 heye7;have HCF := Hh ((HC7.out.set hq 2 (.int .i64 a) (v' := ⟨4, t, a, 0, 0, y == 1, [], []⟩) rfl rfl rfl).set hq 4 (.int .i64 o) (v' := ⟨4, t, a, 0, o, y == 1, [], []⟩) rfl rfl rfl);have hN := HN7.out;subst hN;obtain ⟨⟨c0, c1, c2, c3, c4, c5, c6, c7⟩, ff, -⟩ := HC7.out.cells;have f2 := ff 2;have f4 := ff 4;clear ff;go_wp2_with (refine wpList_store_abs rfl 32 (.tmp 2) (.tmp 87) rfl (w.heap.size + 1) _ rfl rfl 32 _ (HCF.out.row) infoLetter rfl (by simp [Value.oneCell']) ?_; intro W9 hrow9 hoth9 hb9 hs9);have hsF := HCF.out.size;have HKF := Hh (HCF.out.turn hq (W' := W9) (hb9) hrow9 (HCF.out.own.moved fun k h1 h2 => hoth9 k (by omega)));refine bodyPost_ret (results_cell_row rfl _ _ (w.heap.size + 1) 32 _ (0, 0) _ rfl hrow9 Tryz.underlying32 rfl infoLetter) rfl ?_;exact ⟨HKF.out.but, none, 0, ([] : List MItem), none, 0, rfl, HKF.out.eye, HKF.out.own.mono (by omega)⟩
    ·have HN3 := Hh (show N = (getNum 1099511627776 r2).bind fun a r3 => (getNum 1099511627776 r3).bind fun u r4 => (getText 65536 r4).bind fun b r5 => .ok ⟨5, t, a, u, 0, false, [], b⟩ r5 from HN2.out);go_wp2_with fail;clear c0 c1 f1 bx;obtain ⟨w3, hw3⟩ : ∃ W, W = w2.setCell ⟨w.heap.size + 1, 1, none⟩ (.int .i64 t) := ⟨_, rfl⟩
     rw [← hw3] at HC3 ⊢;clear hw3;refine (letLook1 q w.heap.size r2 _ HC3.out.eye HC3.out.box).mono ?_;rintro e w4 ⟨hb4, hr4⟩;cases hg4 : getNum 1099511627776 r2 with
     | err x =>
      rw [hg4] at hr4;obtain rfl : e = broke x := hr4;have hN : N = .err x := by rw [HN3.out, hg4]; rfl
      subst hN;have HB := Hh (HC3.out.but.trans hb4);clear hg4 hb4;go_wp2;exact ⟨rfl, HB.out, rfl⟩
     | ok a r4 =>
      rw [hg4] at hr4;obtain ⟨rfl, heye4⟩ := hr4;have hm4 := getNum_most hg4;have HN4 := Hh (show N = (getNum 1099511627776 r4).bind fun u r4 => (getText 65536 r4).bind fun b r5 => .ok ⟨5, t, a, u, 0, false, [], b⟩ r5 by rw [HN3.out, hg4]; rfl);have HC4 := Hh (HC3.out.step hq hb4 heye4);clear hg4 hb4 heye4;go_wp2_with fail;refine (letLook2 q w.heap.size r4 _ HC4.out.eye HC4.out.box).mono ?_;rintro e w5 ⟨hb5, hr5⟩;cases hg5 : getNum 1099511627776 r4 with
      | err x =>
       rw [hg5] at hr5;obtain rfl : e = broke x := hr5;have hN : N = .err x := by rw [HN4.out, hg5]; rfl
       subst hN;have HB := Hh (HC4.out.but.trans hb5);clear hg5 hb5;go_wp2;exact ⟨rfl, HB.out, rfl⟩
      | ok u r5 =>
       rw [hg5] at hr5;obtain ⟨rfl, heye5⟩ := hr5;have hm5 := getNum_most hg5;have HN5 := Hh (show N = (getText 65536 r5).bind fun b r5 => .ok ⟨5, t, a, u, 0, false, [], b⟩ r5 by rw [HN4.out, hg5]; rfl);have HC5 := Hh (HC4.out.step hq hb5 heye5);clear hg5 hb5 heye5;have HC6 := Hh ((HC5.out.set hq 2 (.int .i64 a) (v' := ⟨5, t, a, 0, 0, false, [], []⟩) rfl rfl rfl).set hq 3 (.int .i64 u) (v' := ⟨5, t, a, u, 0, false, [], []⟩) rfl rfl rfl);obtain ⟨⟨-, -, c2, c3, -, -, -, -⟩, ff, bx⟩ := HC5.out.cells;have f2 := ff 2;have f3 := ff 3;clear ff;go_wp2_with fail;clear c2 c3 f2 f3 bx;obtain ⟨w6, hw6⟩ : ∃ W, W = (w5.setCell ⟨w.heap.size + 1, 2, none⟩ (.int .i64 a)).setCell ⟨w.heap.size + 1, 3, none⟩ (.int .i64 u) := ⟨_, rfl⟩
       rw [← hw6] at HC6 ⊢;clear hw6;refine (eyeText q 65536 r5 _ HC6.out.eye (by omega)).mono ?_;rintro e w7 ⟨hb7, hr7⟩;cases hg7 : getText 65536 r5 with
       | err x =>
        rw [hg7] at hr7;obtain rfl : e = broke x := hr7;have hN : N = .err x := by rw [HN5.out, hg7]; rfl
        subst hN;have HB := Hh (HC6.out.but.trans hb7);clear hg7 hb7;go_wp2;exact ⟨rfl, HB.out, rfl⟩
       | ok b r7 =>
        rw [hg7] at hr7;obtain ⟨⟨va, vc, rfl, hbv, hov⟩, heye7⟩ := hr7;have hv7 : b.length ≤ 65536 := (text_put hg7).2;have hN : N = .ok ⟨5, t, a, u, 0, false, [], b⟩ r7 := by rw [HN5.out, hg7]; rfl
        subst hN;have hs6 := HC6.out.size;have HC7 := Hh (HC6.out.step hq hb7 heye7);have h9 := heap_setCell_same w7 (w.heap.size + 1) 7 _ _ (.slice va b.length vc) HC7.out.row;have HOV := Hh (World.ownsRow.mono (own_mv hov (w' := w7.setCell ⟨w.heap.size + 1, 7, none⟩ (.slice va b.length vc)) fun g cur hg _ => Below.heap_setCell _ _ _ g (by have := (own_lt hov hg).1; show g ≠ w.heap.size + 1; omega)) (show w.heap.size + 2 ≤ w6.heap.size from hs6));have HO7 := Hh (HC7.out.own.moved (W' := w7.setCell ⟨w.heap.size + 1, 7, none⟩ (.slice va b.length vc)) fun k h1 h2 => Below.heap_setCell _ _ _ k (by show k ≠ w.heap.size + 1; omega));have HCF := Hh (HC7.out.turn hq (W' := w7.setCell ⟨w.heap.size + 1, 7, none⟩ (.slice va b.length vc)) (v' := ⟨5, t, a, u, 0, false, [], b⟩) (ia' := none) (ic' := 0) (ms' := []) (ba' := va) (bc' := vc) ((Below.refl _ _).setCell (by simp) _) (by rw [h9]; rfl) ⟨HO7.out.own, rfl, by simp, HOV.out, hv7⟩);clear hg7 hb7 heye7 hbv hov h9;obtain ⟨⟨c0, c1, c2, c3, c4, c5, c6, c7⟩, ff, -⟩ := HC7.out.cells;have f7 := ff 7;clear ff;go_wp2_with (refine wpList_store_abs rfl 32 (.tmp 2) (.tmp 87) rfl (w.heap.size + 1) _ rfl rfl 32 _ (HCF.out.row) infoLetter rfl (by simp [Value.oneCell']) ?_; intro W9 hrow9 hoth9 hb9 hs9);have hsF := HCF.out.size;have HKF := Hh (HCF.out.turn hq (W' := W9) (hb9) hrow9 (HCF.out.own.moved fun k h1 h2 => hoth9 k (by omega)));refine bodyPost_ret (results_cell_row rfl _ _ (w.heap.size + 1) 32 _ (0, 0) _ rfl hrow9 Tryz.underlying32 rfl infoLetter) rfl ?_;exact ⟨HKF.out.but, none, 0, ([] : List MItem), va, vc, rfl, HKF.out.eye, HKF.out.own.mono (by omega)⟩
def outLet : Res PLet → Int × Option PLet
 | .err x => (x, none)
 | .ok v rest => if rest = [] then (0, some v) else (3, none)
def LetTo (o : Int × Option PLet) (w : World) (e : Ending) (w' : World) : Prop :=
 Below w.heap.size w w' ∧ match o.2 with
  | none => e = .returned (.tuple #[.agg (lcell zeroL none 0 0 none 0), .int .i64 o.1])
  | some v => ∃ ia ic ms ba bc, e = .returned (.tuple #[.agg (lcell v ia (List.length ms) ic ba bc), .int .i64 o.1]) ∧ LOwn w.heap.size w' v ia ic ms ba bc
theorem itemsOf9 {w : World} {base : Nat} {a : Option Addr} {n c : Nat} {cs : List Value} {ms : List MItem} (h : w.ownsRow base 40 2 (.slice a n c) n cs) (hn : ms.length = n) (hc : cs = cellsM ms) (hb : ∀ m ∈ ms, m.Bs w w.heap.size) : ItemsAt w w.heap.size a ms.length c ms := by
 subst hn hc;obtain ⟨a', c', e, hs⟩ := SlAt.ofOwns h;injection e with e1 _ e2
 subst e1 e2;exact ⟨hs, hb⟩
theorem LOwn.letAt {N : Nat} {W : World} {v : PLet} {ia : Option Addr} {ic : Nat} {ms : List MItem} {ba : Option Addr} {bc : Nat} (h : LOwn N W v ia ic ms ba bc) : LetAt W W.heap.size v ia ic ms ba bc := by
 have hb : ∀ (a : Option Addr) (n c : Nat) (l : List UInt8), n ≤ 140737488355328 → W.ownsRow N 5 1 (.slice a n c) n (l.map bv) → l.length = n → BsAt W W.heap.size a n c l := fun a n c l hn ho hl => by
  subst hl;obtain ⟨a', c', e, h9⟩ := bsAt_of_owns ho hn;injection e with e1 _ e2
  subst e1; subst e2;exact h9
 refine ⟨itemsOf9 h.own rfl rfl fun m hm => ?_, h.its, hb _ _ _ _ (by have := h.bl; omega) h.b rfl⟩;obtain ⟨h1, h2⟩ := h.bs m hm;have h3 := h2.1;exact hb _ _ _ _ (by omega) h2 (by simpa using h3)
abbrev zeroA : Array Value := #[.int .i64 0, .int .i64 0, .int .i64 0, .int .i64 0, .int .i64 0, .bool false, .slice none 0 0, .slice none 0 0]
set_option maxRecDepth 100000 in
set_option maxHeartbeats 1000000 in
theorem letterRead1 (q p : Nat) (l : List UInt8) (w : World) (h : EyeAt w q l) (hp : w.heap[p]? = some (.cells (lcell zeroL none 0 0 none 0) 32 (0, 0))) (hqp : q ≠ p) :
  Calls Tryz.prog 118 #[.pointer (some ⟨q, 0, none⟩), .pointer (some ⟨p, 0, none⟩)] w fun e w' => ReadsTo q p (getLet l) w w' e fun v => ∃ ia ic ms ba bc, w'.heap[p]? = some (.cells (lcell v ia (List.length ms) ic ba bc) 32 (0, 0)) ∧ LOwn w.heap.size w' v ia ic ms ba bc := by
 obtain ⟨N, hN⟩ : ∃ N, N = getLet l := ⟨_, rfl⟩
 rw [← hN];have HN := Hh hN;have hpl : p < w.heap.size := (Array.getElem?_eq_some_iff.1 hp).1;have HP := Hh hp;clear hN hp;go_enter Tryz.func118, Tryz.ntmps118
 go_wp2_with fail;refine (letterLook q l w h).mono ?_;rintro e w1 ⟨hb1, hm1⟩;rw [← HN.out] at hm1;have HB := Hh hb1;have HP1 := Hh ((hb1.block p hpl hqp.symm).trans HP.out);have hs1 := hb1.size;clear hb1;cases N with
 | err x =>
  obtain rfl : e = broke x := hm1;go_wp2;exact ⟨rfl, ReadsTo.of_but HB.out⟩
 | ok v rest =>
  obtain ⟨ia, ic, ms, ba, bc, rfl, heye, hown⟩ := hm1;have HE := Hh heye;have HO := Hh hown;clear heye hown;go_wp2_with (refine wpList_store_abs rfl 32 (.tmp 1) (.tmp 4) rfl p _ rfl rfl 32 _ HP1.out infoLetter rfl (by simp [Value.oneCell']) ?_; intro W9 hrow9 hoth9 hb9 hs9);go_end0;have he9 : EyeLen W9 q rest.length := by
   obtain ⟨hlt, a9, c9, k1⟩ := HE.out.len;exact ⟨by omega, a9, c9, (World.cell?_of_block (a := ⟨q, 0, none⟩) (hoth9 q hqp)).trans k1⟩
  exact ⟨hb9.os.trans HB.out.os, hb9.tape.trans HB.out.tape, hb9.output.trans HB.out.output, by omega, fun k h1 h2 h3 => (hoth9 k h3).trans (HB.out.block k h1 h2), (fun x h9 => by cases h9),
   (fun v' r' h9 => by cases h9; exact ⟨rfl, he9, ia, ic, ms, ba, bc, hrow9, HO.out.moved fun k h1 h2 => hoth9 k (by omega)⟩)⟩
set_option maxRecDepth 100000 in
set_option maxHeartbeats 1000000 in
theorem letterRead (l : List UInt8) (a : Option Addr) (n c : Nat) (w : World) (h : BsAt w w.heap.size a n c l) :
  Calls Tryz.prog 99 #[.slice a n c] w (LetTo (outLet (getLet l)) w) := by
 obtain ⟨R, hR⟩ : ∃ R, R = getLet l := ⟨_, rfl⟩
 have hsane := sane_let l;rw [← hR] at hsane ⊢;have HR := Hh hR;have HS := Hh hsane;have H := Hh h;obtain ⟨W1, hW1⟩ : ∃ W1, W1 = (w.alloc (.cells zeroA 32)).alloc (.cells zeroA 32) := ⟨_, rfl⟩
 have HW1 := Hh hW1;have hs1 : W1.heap.size = w.heap.size + 2 := by rw [hW1]; simp
 have HBW := Hh (show Below w.heap.size w W1 by rw [hW1]; exact ((Below.refl _ _).alloc (Nat.le_refl _) _).alloc (by simp) _);have HR0 := Hh (show W1.heap[w.heap.size]? = some (.cells (lcell zeroL none 0 0 none 0) 32 (0, 0)) by
  rw [hW1];exact (((Below.refl _ _).alloc (Nat.le_refl (w.alloc (.cells zeroA 32)).heap.size) _).block _ (by simp)).trans (heap_alloc_new w _))
 have HR1 := Hh (show W1.heap[w.heap.size + 1]? = some (.cells zeroA 32 (0, 0)) by
  rw [hW1];have h9 := heap_alloc_new (w.alloc (.cells zeroA 32)) (.cells zeroA 32);simpa using h9)
 clear hR hsane h hW1;go_enter Tryz.func99, Tryz.ntmps99
 go_wp2_with fail;rw [← HW1.out];refine (fieldReadTo R HS.out l a n c 118 (enterOf Tryz.func118 (by kernel_rfl) rfl) #[] #[.pointer (some ⟨w.heap.size + 1, 0, none⟩)] (w.heap.size + 1) W1 (by omega) ((H.out.below HBW.out (Nat.le_refl _)).mono HBW.out.size)
  (fun w1 w' v => ∃ ia ic ms ba bc, w'.heap[w.heap.size + 1]? = some (.cells (lcell v ia (List.length ms) ic ba bc) 32 (0, 0)) ∧ LOwn w1.heap.size w' v ia ic ms ba bc) ?_).mono ?_
 ·intro q w1 hb hq he;show Calls _ 118 #[.pointer (some ⟨q, 0, none⟩), .pointer (some ⟨w.heap.size + 1, 0, none⟩)] w1 _;rw [HR.out];have hs := hb.size;exact letterRead1 q (w.heap.size + 1) l w1 he ((hb.block _ (by omega)).trans HR1.out) (by omega)
 ·rintro e w2 ⟨rfl, hg, hok⟩;have HB2 := Hh (show Below w.heap.size w w2 from HBW.out.trans ((Below.refl _ W1).grown hg (by omega) (fun k e => by cases e; omega)));have hs2 := hg.size;have HOK := Hh hok;have HD0 := Hh (show w2.heap[w.heap.size]? = some (.cells (lcell zeroL none 0 0 none 0) 32 (0, 0)) from (hg.block w.heap.size (by omega) (by simp)).trans HR0.out);clear hg hok;by_cases hz : ∃ v, R = .ok v []
  ·obtain ⟨v, hv⟩ := hz;obtain ⟨w1, w', rb, k1, k2, k3, k4, ⟨ia, ic, ms, ba, bc, k5, k6⟩, k7⟩ := HOK.out v hv;have k8 := k4.size;have HROW := Hh (show w2.heap[w.heap.size + 1]? = some (.cells (lcell v ia ms.length ic ba bc) 32 (0, 0)) from (k7.block _ (by omega) (by omega)).trans k5);have HLO := Hh (show LOwn w1.heap.size w2 v ia ic ms ba bc from k6.moved fun j h1 h2 => k7.block j h2 (by omega));have hz : R.code = 0 := by rw [hv]; rfl
   have t1 : (R.code != 0) = false := by simp [hz]
   have HO := Hh (show outLet R = (0, some v) by rw [hv]; rfl);obtain ⟨c0, c1, c2, c3, c4, c5, c6, c7⟩ := letCells HROW.out;clear hz hv k4 k5 k6 k7;go_wp2_with (refine wpList_store_abs rfl 32 (.tmp 2) (.tmp 13) rfl w.heap.size _ rfl rfl 32 _ HD0.out infoLetter rfl (by simp [Value.oneCell']) ?_; intro W9 hrow9 hoth9 hb9 hs9);refine bodyPost_ret (results_row_tmp rfl _ _ w.heap.size 32 _ (0, 0) _ rfl hrow9 Tryz.underlying32 rfl infoLetter) rfl ?_;unfold LetTo;rw [HO.out];refine ⟨HB2.out.trans hb9, ia, ic, ms, ba, bc, rfl, ?_⟩;exact (HLO.out.moved fun k h1 h2 => hoth9 k (by omega)).mono (by omega)
  ·have hne : R.code ≠ 0 := by
    cases hR : R with
    | err x => exact HS.out x hR
    | ok v rest =>
     simp only [Res.code];split
     ·rename_i h9; exact absurd ⟨v, by rw [hR, h9]⟩ hz
     ·decide
   have HO := Hh (show outLet R = (R.code, none) by
    cases hR : R with
    | err x => rfl
    | ok v rest =>
     simp only [Res.code, outLet];split
     ·rename_i h9; exact absurd ⟨v, by rw [hR, h9]⟩ hz
     ·rfl)
   have t1 : (R.code != 0) = true := by simpa using hne
   clear hz hne;go_wp2_with (refine wpList_store_abs rfl 32 (.tmp 2) (.tmp 11) rfl w.heap.size _ rfl rfl 32 _ HD0.out infoLetter rfl (by simp [Value.oneCell']) ?_; intro W9 hrow9 hoth9 hb9 hs9);refine bodyPost_ret (results_row_tmp rfl _ _ w.heap.size 32 _ (0, 0) _ rfl hrow9 Tryz.underlying32 rfl infoLetter) rfl ?_;unfold LetTo;rw [HO.out];exact ⟨HB2.out.trans hb9, rfl⟩
end Go.Proofs.YtogcnfhmcpkdcaaGreat
