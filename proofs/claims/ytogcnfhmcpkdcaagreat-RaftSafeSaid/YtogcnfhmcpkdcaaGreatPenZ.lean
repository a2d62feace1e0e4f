/-
  slices.Backward at bytes: the closure that it hands back tells all elements, the last first, to every loop body that leaves the elements' block and the box as they were.
  One round of Pen.Num's second loop, as the law of a range over a function asks it. No program in sight.
  Contract of Pen.Num.
  Contract of Eye.Id.
  Contracts of Pen.Text and Pen.Id.
  Contracts of Pen.Bytes and of the reading functions of layer 4's statements.
  The pen's contracts with the frame 'all below the pen is as it was', and what it holds by a name of its own.
-/
import Derived.Test.YtogcnfhmcpkdcaaGreatEyeM
import Derived.Test.YtogcnfhmcpkdcaaGreatPenLaw
import Derived.Test.YtogcnfhmcpkdcaaGreatHeldM
import Derived.Test.YtogcnfhmcpkdcaaGreatFieldM
import Derived.Test.YtogcnfhmcpkdcaaGreatSlMem
import Derived.RangeFuncBox
import Derived.RangeFuncLeaves
import Derived.Shelf.Abstract
import Derived.OwnWalkIn
import Derived.TacticsInMore
import Derived.LoopNIn
import Derived.LoopIn
import Derived.Deep.AppendLies
import Derived.Deep.RegionHeld3
import Derived.Deep.RegionLaw
import Derived.Deep.DrawnRows
import Derived.Deep.DeepCutAuto
import Derived.Deep.CutRange
import Derived.Laws.Cover3
import Derived.Deep.MidRow
import Derived.Laws.Tables
namespace Go.Proofs.YtogcnfhmcpkdcaaGreat
open Go.RowKit Go.Shelf
set_option linter.unusedVariables false
attribute [local go_sem] Oper.semAt_some
def KeepAt (S : Nat → Prop) (A B : World) : Prop := ∀ k, S k → B.heap[k]? = A.heap[k]?
def nth (l : List UInt8) (k : Nat) : Nat × UInt8 := (l.length - 1 - k, l.getD (l.length - 1 - k) 0)
def come (l : List UInt8) (k : Nat) : List (Nat × UInt8) := (List.range k).map (nth l)
theorem come_succ (l : List UInt8) (k : Nat) : come l (k + 1) = come l k ++ [nth l k] := by simp [come, List.range_succ]
theorem come_length (l : List UInt8) (k : Nat) : (come l k).length = k := by simp [come]
theorem come_all (l : List UInt8) : (come l l.length).map (·.2) = l.reverse := by
 apply List.ext_getElem
 ·simp [come]
 ·intro i h1 h2;simp [come] at h1;simp [come, nth, List.getD, List.getElem?_eq_getElem (show l.length - 1 - i < l.length by omega)]
set_option maxRecDepth 100000 in
set_option maxHeartbeats 2000000 in
theorem backward1_in (F : Fence) (n : Nat) (h7 : F.fn 102) (hro : F.round = none) (hn : 1 ≤ n) (y Bs : Nat) (S : Nat → Prop) (l : List UInt8) (a : Option Addr) (c : Nat) (J Jx : List (Nat × UInt8) → World → Prop)
  (hY : ∀ pre x W, J pre W → pre.length < l.length → YieldAt F (n - 1) Tryz.prog y #[.int .i64 (x.1 : Int), .int .u8 (x.2.toNat : Int)] W fun e W' =>
   (e = .returned (.bool true) ∧ J (pre ++ [x]) W' ∧ KeepAt S W W') ∨ (e = .returned (.bool false) ∧ Jx (pre ++ [x]) W'))
  (W : World) (hBs : W.cell? ⟨Bs, 0, none⟩ = some (.slice a l.length c)) (hSB : S Bs) (hbs : BsAt W W.heap.size a l.length c l) (hSb : ∀ b o, a = some ⟨b, o, none⟩ → S b) (h0 : J [] W) :
  CallsIn F n Tryz.prog 102 #[.func (.yield y) #[] #[], .pointer (some ⟨Bs, 0, none⟩)] W fun e W' => (∃ v, e = .returned v) ∧
   ((∃ ys, ys = come l l.length ∧ J ys W') ∨ (∃ pre, (∃ k, k ≤ l.length ∧ pre = come l k) ∧ Jx pre W')) := by
 have hbg := hbs.hbig;refine callsIn_of_wp Tryz.func102 rfl h7 ?_ hro;simp only [Tryz.ntmps102, List.size_toArray, List.length_cons, List.length_nil, Nat.reduceAdd, Nat.reduceSub, Array.replicate_succ, Array.replicate_zero, List.push_toArray, List.append_toArray, List.nil_append, List.cons_append]
 gi_wp2
 gi_loopw [3] (fun i wr => ∃ k : Nat, k ≤ l.length ∧ i = .int .i64 ((l.length : Int) - 1 - k) ∧ J (come l k) wr ∧ KeepAt S W wr)
  (fun i _ => (intOf i + 1).toNat)
 case atStart => exact ⟨0, Nat.zero_le _, by simp, h0, fun _ _ => rfl⟩
 case round =>
  obtain ⟨k, hk, rfl, hJs, hnx⟩ := hrel;have hbx : wr.cell? ⟨Bs, 0, none⟩ = some (.slice a l.length c) := (World.cell?_of_block (hnx Bs hSB)).trans hBs;by_cases hlt : k < l.length
  ·obtain ⟨b, o, rfl, hb, hc⟩ := hbs.hat (by omega);have hcx : wr.cell? ⟨b, o + (l.length - 1 - k), none⟩ = some (.int .u8 ((nth l k).2.toNat : Int)) := (World.cell?_of_block (a := ⟨b, o + (l.length - 1 - k), none⟩) (hnx b (hSb b o rfl))).trans (hc _ (by omega));obtain ⟨fn, tmps, assign, body, hy, hR⟩ := hY _ (nth l k) wr hJs (by rw [come_length]; exact hlt);have hi1 : (nth l k).1 = l.length - 1 - k := rfl;rw [hi1] at hy;obtain ⟨m, hm⟩ : ∃ m, m = l.length - 1 - k := ⟨_, rfl⟩
   have hm2 : (l.length : Int) - 1 - k = (m : Int) := by omega
   rw [← hm] at hcx hy;rw [hm2];have hml : (m : Int) < (l.length : Int) := by omega
   have HM := Hh hm;clear hm hi1 hm2;have HC := Hh hc;have HN := Hh hnx;have HBS := Hh hbs;clear hc hnx hbs hSb
   gi_wp2
   refine hR.mono ?_;rintro e W3 (⟨rfl, hJ3, hk3⟩ | ⟨rfl, hJx3⟩)
   ·gi_wp2
    go_roundw
    case rel => exact ⟨k + 1, by omega, by have := HM.out; congr 1; omega, by rw [come_succ]; exact hJ3, fun j hj => (hk3 j hj).trans (HN.out j hj)⟩
    case measure => have := HM.out; simp [intOf]; try omega
   ·gi_wp2
    refine bodyPost_ret (results_none rfl _ _ _) rfl ?_;exact ⟨⟨_, rfl⟩, .inr ⟨_, ⟨k + 1, by omega, (come_succ _ _).symm⟩, hJx3⟩⟩
  ·have hkl : k = l.length := by omega
   rw [show (l.length : Int) - 1 - k = -1 by omega];rw [hkl] at hJs
   gi_wp2
   go_end0;exact ⟨⟨_, rfl⟩, .inl ⟨_, rfl, hJs⟩⟩
theorem backward_stops (F : Fence) (n : Nat) (h7 : F.fn 102) (hro : F.round = none) (hn : 1 ≤ n) (Bs : Nat) (S : Nat → Prop) (l : List UInt8) (a : Option Addr) (c : Nat) (w : World) (hBs : Bs < w.heap.size)
  (hc : w.cell? ⟨Bs, 0, none⟩ = some (.slice a l.length c)) (hSB : S Bs) (hbs : BsAt w w.heap.size a l.length c l) (hSb : ∀ b o, a = some ⟨b, o, none⟩ → S b) :
  SeqStopsK F n Tryz.prog 102 #[.pointer (some ⟨Bs, 0, none⟩)] (fun x : Nat × UInt8 => #[Value.int .i64 (x.1 : Int), Value.int .u8 (x.2.toNat : Int)]) (KeepAt S) (fun ys => ys = come l l.length)
   (fun pre => ∃ k, k ≤ l.length ∧ pre = come l k) l.length w := fun y J Jx W hW _ _ hY h0 =>
 backward1_in F n h7 hro hn y Bs S l a c J Jx hY W ((hW.cell (p := ⟨Bs, 0, none⟩) hBs).trans hc) hSB ((hbs.below hW (Nat.le_refl _)).mono hW.size) hSb h0
end Go.Proofs.YtogcnfhmcpkdcaaGreat
namespace Go.Proofs.YtogcnfhmcpkdcaaGreat
open Go.RowKit
set_option linter.unusedVariables false
theorem MidNum.round {U8 T : TypeId} {q : Nat} {v : Value} {w W : World} {u : Value} {xs L : List UInt8} {v3 : Value} (h : MidNum U8 q v w W u xs L v3) (hq : q < w.heap.size) (hs : w.heap.size < W.heap.size) (b2 B : Nat) (hb2 : b2 < W.heap.size) (hb3 : w.heap.size ≤ b2) (hv : v3.ownBlock ≠ some b2)
  (c : UInt8) {g cap : Nat} {w1 : World} (hown : w1.ownsRow (q + 1) U8 1 (.slice (some ⟨g, 0, none⟩) (L.length + 1) cap) (L.length + 1) (L.map bv ++ [bv c])) (hgrow : (W.alloc (.cells #[bv c] T)).drew.grownBy w1 v3.ownBlock) (hat : v3.ownBlock = some g ∨ g = W.heap.size + 1) :
  KeepsFrom B W (w1.setCell ⟨q, 0, none⟩ (.slice (some ⟨g, 0, none⟩) (L.length + 1) cap)) ∧
  KeepAt (fun k => k = b2 ∨ u.ownBlock = some k) W (w1.setCell ⟨q, 0, none⟩ (.slice (some ⟨g, 0, none⟩) (L.length + 1) cap)) ∧
  W.heap.size ≤ (w1.setCell ⟨q, 0, none⟩ (.slice (some ⟨g, 0, none⟩) (L.length + 1) cap)).heap.size ∧
  ∃ v', MidNum U8 q v w (w1.setCell ⟨q, 0, none⟩ (.slice (some ⟨g, 0, none⟩) (L.length + 1) cap)) u xs (L ++ [c]) v' ∧ v'.ownBlock ≠ some b2 := by
 have hul : ∀ g, u.ownBlock = some g → g < W.heap.size := fun g hg => (own_lt h.row hg).2
 have hA : Below W.heap.size W (W.alloc (.cells #[bv c] T)).drew := ((Below.refl _ W).alloc (Nat.le_refl _) _).drew;have hsz := hgrow.size;simp at hsz;have hpA := h.pen.below hA;have hother : ∀ k, k ≠ q → (w1.setCell ⟨q, 0, none⟩ (.slice (some ⟨g, 0, none⟩) (L.length + 1) cap)).heap[k]? = w1.heap[k]? := fun k hk => Below.heap_setCell _ _ _ k hk
 have hsame : ∀ k, k < W.heap.size → k ≠ q → v3.ownBlock ≠ some k → (w1.setCell ⟨q, 0, none⟩ (.slice (some ⟨g, 0, none⟩) (L.length + 1) cap)).heap[k]? = W.heap[k]? := fun k hk hkq hkv =>
  (hother k hkq).trans ((hgrow.block k (by simp; omega) (fun e => hkv e.symm)).trans (hA.block k hk))
 refine ⟨⟨by simp; omega, fun k o hB hk ho => ?_⟩, fun k hk => ?_, by simp; omega, _, h.append hq hs hul hA (by simp) hown hgrow hat, ?_⟩
 ·have hkl := (Array.getElem?_eq_some_iff.1 hk).1;refine (hsame k hkl ?_ ?_).trans hk
  ·rintro rfl;obtain ⟨o', ho', hc'⟩ := cells_of_cell h.pen.cell;rw [hk] at ho'; cases ho'; rw [ho] at hc'; cases hc'
  ·intro e;rcases h.pen.own.2 with ⟨e2, _⟩ | ⟨g', cap', cur, e2, _, h2, _⟩
   ·rw [e2] at e; simp [Value.ownBlock] at e
   ·rw [e2] at e; simp [Value.ownBlock] at e; subst e;rw [hk] at h2; cases h2; cases ho
 ·rcases hk with rfl | hk
  ·exact hsame _ hb2 (by omega) hv
  ·have := own_lt h.row hk;exact hsame k this.2 (by omega) (fun e => (h.far k e).2 hk)
 ·intro e;simp [Value.ownBlock] at e;subst e;rcases hat with e | e
  ·exact hv e
  ·omega
end Go.Proofs.YtogcnfhmcpkdcaaGreat
namespace Go.Proofs.YtogcnfhmcpkdcaaGreat
open Go.RowKit Go.Shelf
set_option linter.unusedVariables false
set_option linter.unusedSimpArgs false
attribute [local go_sem] Oper.semAt_some
set_option maxRecDepth 100000 in
set_option maxHeartbeats 4000000 in
theorem penNum (q n : Nat) (hn64 : n < 18446744073709551616) (v : Value) (l : List UInt8) (hl : l.length ≤ 1000000) (w : World) (h : PenAt 5 w q v l) :
  Calls Tryz.prog 35 #[.pointer (some ⟨q, 0, none⟩), .int .u64 n] w fun e w' => e = .returned (.tuple #[]) ∧ ∃ v', PenAt 5 w' q v' (l ++ putNum n) ∧ Penned q v w w' v' := by
 obtain ⟨i0, hi, hz0, hz1, hz2⟩ := info_parts infoU8;refine callsIn_wide.1 (callsIn_of_wp_marks (F := Fence.wide) (n := 3) Tryz.func35 rfl trivial (wpIn_wide.2 ?_) rfl);simp only [Tryz.ntmps35, List.size_toArray, List.length_cons, List.length_nil, Nat.reduceAdd, Nat.reduceSub, Array.replicate_succ, Array.replicate_zero, List.push_toArray, List.append_toArray, List.nil_append, List.cons_append];have H := Hh h;clear h;go_wp2;go_loopw [1, 4] (fun nv lv wr => ∃ (m : Nat) (xs : List UInt8), nv = .int .u64 m ∧ xs ++ le m = le n ∧ m < 18446744073709551616 ∧ wr.ownsRow (w.heap.size + 1) 5 1 lv xs.length (xs.map bv) ∧ Below (w.heap.size + 1) (w.alloc (.cells #[.pointer (some ⟨q, 0, none⟩)] 107)) wr)
  (fun nv _ _ => (intOf nv).toNat)
 case atStart => exact ⟨n, [], rfl, rfl, hn64, ⟨rfl, .inl ⟨rfl, rfl⟩⟩, Below.refl _ _⟩
 case round =>
  obtain ⟨m, xs, rfl, hxs, hm, hown, hbel⟩ := hrel;have hsz := hbel.size;simp only [World.size_alloc] at hsz;have hbx : wr.cell? ⟨w.heap.size, 0, none⟩ = some (.pointer (some ⟨q, 0, none⟩)) := by rw [hbel.cell (p := ⟨w.heap.size, 0, none⟩) (by simp)]; simp [go_sem]
  have hxl : xs.length ≤ 8 := by have := le_len8 hn64; rw [← hxs] at this; simp at this; omega
  by_cases hm0 : 0 < m
  ·have t1 : decide ((0 : Int) < (m : Int)) = true := by simp; omega
   have hle := le_pos hm0;have HL := Hh hle;have HX := Hh hxs;have HB := Hh hbel;clear hle hxs hbel;go_wp2_with (at_builtin; refine wpList_append_own _ rfl _ _ 27 rfl (w.heap.size + 1) 5 i0 (.int .u8 0) 1 1 Tryz.underlying27 hi hz0 hz1 hz2 rfl (by decide) _ _ _ rfl (hown.alloc _) ⟨wr.heap.size, 0, none⟩ 1 1 [.int .u8 ((m : Int) % 256)] rfl rfl ?c1 ?c2 ?c3 ?c4 ?c5 ?_)
   case c1 => intro j u hu; match j, hu with | 0, hu => simp at hu; subst hu; simp [Addr.add]
   case c2 => intro u hu; simp at hu; subst hu; rfl
   case c3 => unfold maxLen; omega
   case c4 => omega
   case c5 => simp; omega
   intro v' w5 hown' hgrow _;go_wp2;go_roundw
   case rel =>
    refine ⟨m / 256, xs ++ [UInt8.ofNat m], by go_num, by rw [← HX.out, HL.out]; simp, by omega, ?_, ?_⟩
    ·have e1 : (xs ++ [UInt8.ofNat m]).length = xs.length + 1 := by simp
     have e2 : (xs ++ [UInt8.ofNat m]).map bv = xs.map bv ++ [.int .u8 ((m : Int) % 256)] := by simp [bv]
     rw [e1, e2]; exact hown'
    ·exact (HB.out.alloc (by omega) _).grown hgrow (by simp; omega) (fun k hk => (own_lt hown (hk)).1)
   case measure => simp [intOf]; omega
  ·have hm1 : m = 0 := by omega
   subst hm1;rw [le_zero, List.append_nil] at hxs;have HX := Hh hxs;clear hm0 hxs hm;have hbw : Below w.heap.size w wr := ((Below.refl w.heap.size w).alloc (Nat.le_refl _) _).trans (hbel.mono (by omega));have hpen := H.out.below hbw;have hqc := hpen.cell;have hqz := hpen.free;have hqw : q < w.heap.size := H.out.lt;obtain ⟨a4, c4, rfl, hs4⟩ := SlAt.ofOwns hown;obtain ⟨av, cv, rfl, hsv⟩ := SlAt.ofOwns hpen.own;have hb1 : Below wr.heap.size wr (wr.alloc (.cells #[.int .u8 (xs.length : Int)] 5)).drew := ((Below.refl _ wr).alloc (Nat.le_refl _) _).drew;have hpen1 := hpen.below hb1;have hvo : ∀ g, (Value.slice av l.length cv).ownBlock = some g → g < w.heap.size := fun g hg => (own_lt H.out.own hg).2
   have hfar : ∀ (A B : World), A.grownBy B (Value.slice av l.length cv).ownBlock → w.heap.size < A.heap.size → A.cell? ⟨w.heap.size, 0, none⟩ = some (.pointer (some ⟨q, 0, none⟩)) → B.cell? ⟨w.heap.size, 0, none⟩ = some (.pointer (some ⟨q, 0, none⟩)) := fun A B hg hs hc => by
    rw [hg.cell_far ⟨w.heap.size, 0, none⟩ hs (fun e => by have := hvo _ e.symm; simp at this)]; exact hc
   have hqv : (Value.slice av l.length cv).ownBlock ≠ some q := fun e => by have := (own_lt H.out.own e).1; omega
   have HQ1 := Hh (fun (B : World) (hg : (wr.alloc (.cells #[.int .u8 (xs.length : Int)] 5)).drew.grownBy B (Value.slice av l.length cv).ownBlock) => (hg.cell_far ⟨q, 0, none⟩ (by simp; omega) (fun e => hqv e.symm)).trans hpen1.cell);have HQ2 := Hh (fun (B : World) (hg : (wr.alloc (.cells #[.int .u8 (xs.length : Int)] 5)).drew.grownBy B (Value.slice av l.length cv).ownBlock) => (hg.frozen_far ⟨q, 0, none⟩ (by simp; omega) (fun e => hqv e.symm)).trans hpen1.free);have HQ3 := Hh (fun (B : World) (hg : (wr.alloc (.cells #[.int .u8 (xs.length : Int)] 5)).drew.grownBy B (Value.slice av l.length cv).ownBlock) => hfar _ B hg (by simp; omega) ((World.cell?_of_block (a := ⟨w.heap.size, 0, none⟩) (hb1.block w.heap.size (by omega))).trans hbx));have HB1 := Hh hb1;have HVO := Hh hvo;have HFAR := Hh hfar;have HOWN := Hh hpen1.own;have HB := Hh hbel;have HBW := Hh hbw;have HPEN := Hh hpen;have HXO := Hh hown;have HS4 := Hh hs4;have hwx : IntKind.u8.wrap (xs.length : Int) = (xs.length : Int) := by rw [IntKind.wrap_u8]; omega
   have hq0 : w.heap.size < wr.heap.size := by omega
   have hq1 : q < wr.heap.size := by omega
   have hq2 : ¬ w.heap.size = q := by omega
   have hq3 : ¬ q = w.heap.size := by omega
   clear hbel hbw hpen hpen1 hown hs4 hsv hb1 hvo hfar hqv;have hmid : MidNum 5 q (.slice av l.length cv) w wr (.slice a4 xs.length c4) xs l (.slice av l.length cv) :=
    ⟨HPEN.out, Penned.ofBelow HBW.out, hbx, HXO.out, fun g hg => ⟨fun e => by have := HVO.out g hg; omega, fun e => by have := HVO.out g hg; have := (own_lt HXO.out e).1; omega⟩⟩
   have HMID := Hh hmid;have happ : ∀ (g cap : Nat) (w1 : World), w1.ownsRow (q + 1) 5 1 (.slice (some ⟨g, 0, none⟩) (l.length + 1) cap) (l.length + 1) (l.map bv ++ [.int .u8 (xs.length : Int)]) → (wr.alloc (.cells #[.int .u8 (xs.length : Int)] 5)).drew.grownBy w1 (Value.slice av l.length cv).ownBlock → ((Value.slice av l.length cv).ownBlock = some g ∨ g = wr.heap.size + 1) →
     ∃ v', MidNum 5 q (.slice av l.length cv) w (w1.setCell ⟨q, 0, none⟩ (.slice (some ⟨g, 0, none⟩) (l.length + 1) cap)) (.slice a4 xs.length c4) xs (l ++ [UInt8.ofNat xs.length]) v' := fun g cap w1 h1 h2 h3 => by
    have hbvx : (.int .u8 (xs.length : Int) : Value) = bv (UInt8.ofNat xs.length) := by simp [bv]; omega
    rw [hbvx] at h1;exact ⟨_, hmid.append hqw hq0 (fun g hg => (own_lt HXO.out hg).2) HB1.out (by simp) h1 h2 h3⟩
   have HAPP := Hh happ;clear hmid happ;go_upto_region 5 with (fail)
   go_cut [] from 16 to 27 (fun wc => ∃ v', MidNum 5 q (.slice av l.length cv) w wc (.slice a4 xs.length c4) xs (l ++ [UInt8.ofNat xs.length]) v')
   case first =>
    refine wp_region_noPanic ?_;go_region_law ((refine step_append_lies _ (by rfl) _ _ _ (by rfl) (q + 1) 5 i0 (.int .u8 0) 1 1 Tryz.underlying27 hi hz0 hz1 hz2 (by rfl) (by omega) (.slice av l.length cv) l.length (l.map bv) (by rfl) HOWN.out ⟨wr.heap.size, 0, none⟩ 1 1 [.int .u8 (xs.length : Int)] (by rfl) (by rfl) (by intro j u hu; match j, hu with | 0, hu => simp at hu; subst hu; simp [Addr.add, go_sem]) (by intro u hu; simp at hu; subst hu; rfl) (by omega) (by unfold maxLen; omega) (by omega) (by simp; omega) (wr.heap.size + 1) (by simp) ?_; intro g cap w1 hown1 hgrow hat hlt; have hw1q : w1.cell? ⟨q, 0, none⟩ = some (.slice av l.length cv) := HQ1.out _ hgrow; have hw1b : w1.cell? ⟨w.heap.size, 0, none⟩ = some (.pointer (some ⟨q, 0, none⟩)) := HQ3.out _ hgrow; have hw1z : w1.frozen? ⟨q, 0, none⟩ = false := HQ2.out _ hgrow))
    all_goals (refine NoPanic.normal ?_)
    all_goals simp only [Exit.then]
    all_goals go_step
    all_goals go_meet
    all_goals exact HAPP.out _ _ _ hown1 hgrow hat
   case rest =>
    obtain ⟨v2, hmid2⟩ := hcut;have HM2 := Hh hmid2;clear hmid2;have hbx2 := HM2.out.box;go_wp2;refine (wpIn_wide (n := 3)).1 ?_;have hsz2 := HM2.out.to.size;have hbs2 : BsAt wc wc.heap.size a4 xs.length c4 xs := by
     obtain ⟨a5, c5, e5, h5⟩ := bsAt_of_owns HM2.out.row (by omega);injection e5 with e6 e7 e8
     subst e6; subst e8;exact h5
    have hb3 : Below wc.heap.size wc (wc.alloc (.cells #[.slice a4 xs.length c4] 27)) := (Below.refl _ wc).alloc (Nat.le_refl _) _;have hul : ∀ g, (Value.slice a4 xs.length c4).ownBlock = some g → g < wc.heap.size := fun g hg => (own_lt HM2.out.row hg).2
    refine wpIn_rangeFunc_ownG rfl (by omega) (gf := 102) (lb := #[.pointer (some ⟨wc.heap.size, 0, none⟩)]) rfl trivial (enters_of Tryz.func102 (by kernel_rfl) rfl)
     (backward_stops Fence.wide 2 trivial rfl (by omega) wc.heap.size (fun k => k = wc.heap.size ∨ (Value.slice a4 xs.length c4).ownBlock = some k) xs a4 c4 (wc.alloc (.cells #[.slice a4 xs.length c4] 27)) (by simp) (by simp [go_sem]) (.inl rfl) ((hbs2.below hb3 (Nat.le_refl _)).mono hb3.size) (fun b o e => .inr (by rw [e]; rfl)))
     (fun h k x hx => (k x hx).trans (h x hx)) (fun W t o o' ht _ _ _ k hk => World.putObj_heap_other (by simp at ht; rcases hk with rfl | hk; (omega); (have := hul k hk; omega))) (Below.refl _ _) (fun _ => rfl)
     (fun pre W => wc.heap.size + 1 ≤ W.heap.size ∧ ∃ v3, MidNum 5 q (.slice av l.length cv) w W (.slice a4 xs.length c4) xs (l ++ [UInt8.ofNat xs.length] ++ pre.map (·.2)) v3 ∧ v3.ownBlock ≠ some wc.heap.size)
     (fun _ _ _ => False)
     (fun s A B row hs hg hr => ⟨Nat.le_trans hs.1 hg.size, hs.2.elim fun v3 h3 => ⟨v3, h3.1.kept hg (fun r e => ⟨by have := (hr r e).1; simp at this; omega, (hr r e).2⟩), h3.2⟩⟩)
     (fun _ _ _ _ _ hs _ _ => hs)
     ⟨by simp, v2, by simpa using HM2.out.kept (W' := wc.alloc (.cells #[.slice a4 xs.length c4] 27)) (row := none) ⟨rfl, rfl, rfl, by simp, fun k hk _ => Below.heap_alloc _ _ _ hk⟩ (fun r e => by cases e), fun e => by have := (own_lt HM2.out.pen.own e).2; omega⟩
     (fun x => { tmps := #[.pointer (some ⟨q, 0, none⟩), .int .u64 0, .pointer (some ⟨w.heap.size, 0, none⟩), undef, .slice a4 xs.length c4, undef, .int .u8 (x.2.toNat : Int), .int .u64 0, .bool false, u9, u10, u11, u12, u13, u14, u15, u16, u17, u18, u19, u20, u21, u22, u23, u24, u25, u26, u27, .slice a4 xs.length c4, .func (.func 102) #[] #[.pointer (some ⟨wc.heap.size, 0, none⟩)], .int .i64 (x.1 : Int), .int .u8 (x.2.toNat : Int), undef, undef, undef, undef, undef, undef, undef, undef, undef, undef], defers := [] }) ?assign ?body ?done ?stop
    case assign =>
     intro t x W K hK
     gi_wp2
     exact hK
    case body =>
     rintro t pre x W ⟨hW, v3, h3, hv3⟩ hpre;obtain ⟨L, hL⟩ : ∃ L, L = l ++ [UInt8.ofNat xs.length] ++ pre.map (·.2) := ⟨_, rfl⟩
     rw [← hL] at h3;have hLl : L.length ≤ 1000010 := by rw [hL]; simp; omega
     have hL2 : l ++ [UInt8.ofNat xs.length] ++ (pre ++ [x]).map (·.2) = L ++ [x.2] := by rw [hL]; simp
     have HL2 := Hh hL2;clear hL hL2;have hx1 := h3.pen.cell;have hx2 := h3.pen.free;have hx3 := h3.box;have hx4 := h3.to.size;have hx5 : w.heap.size < W.heap.size := by omega
     have hx6 : q < W.heap.size := by omega
     have hb1 : Below W.heap.size W (W.alloc (.cells #[.int .u8 (x.2.toNat : Int)] 5)).drew := ((Below.refl _ W).alloc (Nat.le_refl _) _).drew;have hpA := h3.pen.below hb1;have hqv : v3.ownBlock ≠ some q := fun e => by have := (own_lt h3.pen.own e).1; omega
     have hA3 : (W.alloc (.cells #[.int .u8 (x.2.toNat : Int)] 5)).drew.cell? ⟨w.heap.size, 0, none⟩ = some (.pointer (some ⟨q, 0, none⟩)) := (World.cell?_of_block (a := ⟨w.heap.size, 0, none⟩) (hb1.block w.heap.size hx5)).trans hx3;have HOW := Hh hpA.own;have HA1 := Hh (fun (B : World) (hg : (W.alloc (.cells #[.int .u8 (x.2.toNat : Int)] 5)).drew.grownBy B v3.ownBlock) => (hg.cell_far ⟨q, 0, none⟩ hpA.lt (fun e => hqv e.symm)).trans hpA.cell);have HA2 := Hh (fun (B : World) (hg : (W.alloc (.cells #[.int .u8 (x.2.toNat : Int)] 5)).drew.grownBy B v3.ownBlock) => (hg.frozen_far ⟨q, 0, none⟩ hpA.lt (fun e => hqv e.symm)).trans hpA.free);have HA3 := Hh (fun (B : World) (hg : (W.alloc (.cells #[.int .u8 (x.2.toNat : Int)] 5)).drew.grownBy B v3.ownBlock) => (hg.cell_far ⟨w.heap.size, 0, none⟩ (by simp; omega) (fun e => (h3.far _ e.symm).1 rfl)).trans hA3);have HP := Hh (fun (g cap : Nat) (w1 : World) hown hgrow hat => h3.round (T := 5) hqw hx5 wc.heap.size (wc.heap.size + 1) (by omega) hsz2 hv3 x.2 (g := g) (cap := cap) (w1 := w1) hown hgrow hat);have H3 := Hh h3;clear h3 hpA hb1 hv3;refine wpIn_block ?_;refine wpIn_region_wide ?hm ?hcalm ?hout ?_
     case hm => kernel_rfl
     case hcalm => exact calm_of (by kernel_rfl)
     case hout => rintro ⟨_, _, hh⟩; exact hh
     refine wpAny_of_held (S := fun w' => w'.cell? ⟨w.heap.size, 0, none⟩ = some (.pointer (some ⟨q, 0, none⟩))) _ _ _ _ ?_;refine wpAnyH_take (i := 0) (v := .pointer (some ⟨q, 0, none⟩)) rfl (by kernel_rfl) (by kernel_rfl) (by kernel_rfl) (fun _ _ _ h => h) (.inl ⟨by rfl, by intro w' hS; go_simp; all_goals rfl⟩) (by simpa using hx3) ?_;simp only [Act.put, List.setIfInBounds_toArray, List.set_cons_zero, List.set_cons_succ];refine wpAnyH_take (i := 1) (v := .pointer (some ⟨q, 0, none⟩)) rfl (by kernel_rfl) (by kernel_rfl) (by kernel_rfl) (fun _ _ _ h => h) (.inl ⟨by rfl, by intro w' hS; go_simp; all_goals rfl⟩) (by simpa using hx3) ?_;simp only [Act.put, List.setIfInBounds_toArray, List.set_cons_zero, List.set_cons_succ];refine wpAnyH_take (i := 2) (v := .pointer (some ⟨q, 0, none⟩)) rfl (by kernel_rfl) (by kernel_rfl) (by kernel_rfl) (fun _ _ _ h => h) (.inl ⟨by rfl, by intro w' hS; go_simp; all_goals rfl⟩) (by simpa using hx3) ?_;simp only [Act.put, List.setIfInBounds_toArray, List.set_cons_zero, List.set_cons_succ];refine wpAnyH_take (i := 3) (v := .pointer (some ⟨q, 0, none⟩)) rfl (by kernel_rfl) (by kernel_rfl) (by kernel_rfl) (fun _ _ _ h => h) (.inl ⟨by rfl, by intro w' hS; go_simp; all_goals rfl⟩) (by simpa using hx3) ?_;simp only [Act.put, List.setIfInBounds_toArray, List.set_cons_zero, List.set_cons_succ];refine wpAnyH_take (i := 5) (v := .int .u8 (x.2.toNat : Int)) rfl (by kernel_rfl) (by kernel_rfl) (by kernel_rfl) (fun _ _ _ h => h) (.inl ⟨by rfl, by intro w' hS; go_simp; all_goals rfl⟩) (by simpa using hx3) ?_;simp only [Act.put, List.setIfInBounds_toArray, List.set_cons_zero, List.set_cons_succ];refine wpAnyH_two (i := 4) (j := 6) (by kernel_rfl) ?_ ?_
     ·refine wpOp_value (v := v3) (w1 := W.drew) rfl (by rfl) (by go_simp; all_goals rfl) ⟨by first | exact hA3 | simpa using hx3, ?_⟩;simp only [Act.put, List.setIfInBounds_toArray, List.set_cons_zero, List.set_cons_succ];refine wpAnyH_one (i := 6) (by kernel_rfl) ?_;refine wpOp_value (v := .slice (some ⟨W.heap.size, 0, none⟩) 1 1) (w1 := (W.alloc (.cells #[.int .u8 (x.2.toNat : Int)] 5)).drew) rfl (by rfl) (by go_simp; all_goals rfl) ⟨by first | exact hA3 | simpa using hx3, ?_⟩;simp only [Act.put, List.setIfInBounds_toArray, List.set_cons_zero, List.set_cons_succ];refine wpAnyH_one (i := 7) (by kernel_rfl) ?_;refine wpOp_wp rfl (by rfl) ?_;refine wp_append_lies _ _ _ _ (by rfl) (q + 1) 5 i0 (.int .u8 0) 1 1 Tryz.underlying27 hi hz0 hz1 hz2 (by rfl) (by omega) v3 L.length (L.map bv) (by rfl) HOW.out ⟨W.heap.size, 0, none⟩ 1 1 [.int .u8 (x.2.toNat : Int)] (by rfl) (by rfl) (by intro j u hu; match j, hu with | 0, hu => simp at hu; subst hu; simp [Addr.add, go_sem]) (by intro u hu; simp at hu; subst hu; rfl) (by omega) (by unfold maxLen; omega) (by omega) (by simp; omega) (W.heap.size + 1) (by simp) ?_;intro g cap w1 hown1 hgrow hat hlt;have hw1q := HA1.out _ hgrow;have hw1z := HA2.out _ hgrow;have hw1b := HA3.out _ hgrow;refine ⟨hw1b, ?_⟩;simp only [Act.put, List.setIfInBounds_toArray, List.set_cons_zero, List.set_cons_succ];refine wpAnyH_take (i := 8) (v := .pointer (some ⟨q, 0, none⟩)) rfl (by kernel_rfl) (by kernel_rfl) (by kernel_rfl) (fun _ _ _ h => h) (.inl ⟨by rfl, by intro w' hS; go_simp; all_goals rfl⟩) hw1b ?_;simp only [Act.put, List.setIfInBounds_toArray, List.set_cons_zero, List.set_cons_succ];refine wpAnyH_take (i := 9) (v := .pointer (some ⟨q, 0, none⟩)) rfl (by kernel_rfl) (by kernel_rfl) (by kernel_rfl) (fun _ _ _ h => h) (.inl ⟨by rfl, by intro w' hS; go_simp; all_goals rfl⟩) hw1b ?_;simp only [Act.put, List.setIfInBounds_toArray, List.set_cons_zero, List.set_cons_succ];refine wpAnyH_one (i := 10) (by kernel_rfl) ?_;refine wpOp_skip (w1 := w1.setCell ⟨q, 0, none⟩ (.slice (some ⟨g, 0, none⟩) (L.length + 1) cap)) rfl (by rfl) (by go_simp; all_goals rfl) ⟨by rw [World.cell?_setCell_other _ _ _ _ (show (⟨q, 0, none⟩ : Addr) ≠ ⟨w.heap.size, 0, none⟩ from fun e => by injection e with e1; omega)]; exact hw1b, ?_⟩;refine OpE ?_;obtain ⟨p1, p2, p3, v4, p4, p5⟩ := HP.out g cap w1 hown1 hgrow hat;exact ⟨by simpa using p1, p2, Nat.le_trans hW p3, v4, by rw [HL2.out]; exact p4, p5⟩
     ·refine wpOp_value (v := .slice (some ⟨W.heap.size, 0, none⟩) 1 1) (w1 := (W.alloc (.cells #[.int .u8 (x.2.toNat : Int)] 5)).drew) rfl (by rfl) (by go_simp; all_goals rfl) ⟨by first | exact hA3 | simpa using hx3, ?_⟩;simp only [Act.put, List.setIfInBounds_toArray, List.set_cons_zero, List.set_cons_succ];refine wpAnyH_one (i := 4) (by kernel_rfl) ?_;refine wpOp_value (v := v3) (w1 := (W.alloc (.cells #[.int .u8 (x.2.toNat : Int)] 5)).drew) rfl (by rfl) (by go_simp; all_goals rfl) ⟨by first | exact hA3 | simpa using hx3, ?_⟩;simp only [Act.put, List.setIfInBounds_toArray, List.set_cons_zero, List.set_cons_succ];refine wpAnyH_one (i := 7) (by kernel_rfl) ?_;refine wpOp_wp rfl (by rfl) ?_;refine wp_append_lies _ _ _ _ (by rfl) (q + 1) 5 i0 (.int .u8 0) 1 1 Tryz.underlying27 hi hz0 hz1 hz2 (by rfl) (by omega) v3 L.length (L.map bv) (by rfl) HOW.out ⟨W.heap.size, 0, none⟩ 1 1 [.int .u8 (x.2.toNat : Int)] (by rfl) (by rfl) (by intro j u hu; match j, hu with | 0, hu => simp at hu; subst hu; simp [Addr.add, go_sem]) (by intro u hu; simp at hu; subst hu; rfl) (by omega) (by unfold maxLen; omega) (by omega) (by simp; omega) (W.heap.size + 1) (by simp) ?_;intro g cap w1 hown1 hgrow hat hlt;have hw1q := HA1.out _ hgrow;have hw1z := HA2.out _ hgrow;have hw1b := HA3.out _ hgrow;refine ⟨hw1b, ?_⟩;simp only [Act.put, List.setIfInBounds_toArray, List.set_cons_zero, List.set_cons_succ];refine wpAnyH_take (i := 8) (v := .pointer (some ⟨q, 0, none⟩)) rfl (by kernel_rfl) (by kernel_rfl) (by kernel_rfl) (fun _ _ _ h => h) (.inl ⟨by rfl, by intro w' hS; go_simp; all_goals rfl⟩) hw1b ?_;simp only [Act.put, List.setIfInBounds_toArray, List.set_cons_zero, List.set_cons_succ];refine wpAnyH_take (i := 9) (v := .pointer (some ⟨q, 0, none⟩)) rfl (by kernel_rfl) (by kernel_rfl) (by kernel_rfl) (fun _ _ _ h => h) (.inl ⟨by rfl, by intro w' hS; go_simp; all_goals rfl⟩) hw1b ?_;simp only [Act.put, List.setIfInBounds_toArray, List.set_cons_zero, List.set_cons_succ];refine wpAnyH_one (i := 10) (by kernel_rfl) ?_;refine wpOp_skip (w1 := w1.setCell ⟨q, 0, none⟩ (.slice (some ⟨g, 0, none⟩) (L.length + 1) cap)) rfl (by rfl) (by go_simp; all_goals rfl) ⟨by rw [World.cell?_setCell_other _ _ _ _ (show (⟨q, 0, none⟩ : Addr) ≠ ⟨w.heap.size, 0, none⟩ from fun e => by injection e with e1; omega)]; exact hw1b, ?_⟩;refine OpE ?_;obtain ⟨p1, p2, p3, v4, p4, p5⟩ := HP.out g cap w1 hown1 hgrow hat;exact ⟨by simpa using p1, p2, Nat.le_trans hW p3, v4, by rw [HL2.out]; exact p4, p5⟩
    case done =>
     rintro D ys W hD rfl ⟨hW, v3, h3, hv3⟩ hK;have hfin := h3.kept (grownBy_putObj' W D (.deferred none)) (fun r e => by cases e; exact ⟨by simp at hD; omega, _, hK, rfl⟩);have hput : l ++ [UInt8.ofNat xs.length] ++ (come xs xs.length).map (·.2) = l ++ putNum n := by rw [come_all, HX.out]; simp [putNum]
     rw [hput] at hfin;go_wp2;refine ⟨by simp, .inl ⟨_, _, rfl, run_takeDeferred hK, ?_⟩⟩;exact ⟨_, results_none rfl _ _ _, rfl, v3, hfin.pen, hfin.to⟩
    case stop =>
     rintro D c pre W _ _ h _;exact h.elim
end Go.Proofs.YtogcnfhmcpkdcaaGreat
namespace Go.Proofs.YtogcnfhmcpkdcaaGreat
open Go.RowKit
set_option linter.unusedVariables false
end Go.Proofs.YtogcnfhmcpkdcaaGreat
namespace Go.Proofs.YtogcnfhmcpkdcaaGreat
open Go.RowKit
set_option linter.unusedVariables false
set_option linter.unusedSimpArgs false
attribute [local go_sem ↓] Go.wp_at_zero Go.wp_at_succ
theorem PenAt.append {U8 : TypeId} {A w1 : World} {q : Nat} {v v' : Value} {l m : List UInt8} (h : PenAt U8 A q v l) (hown : w1.ownsRow (q + 1) U8 1 v' (l.length + m.length) (l.map bv ++ m.map bv))
  (hgrow : A.grownBy w1 v.ownBlock) (hat : v'.ownBlock = v.ownBlock ∨ v'.ownBlock = some A.heap.size) :
  PenAt U8 (w1.setCell ⟨q, 0, none⟩ v') q v' (l ++ m) ∧ Penned q v A (w1.setCell ⟨q, 0, none⟩ v') v' := by
 have hqv : v.ownBlock ≠ some q := fun e => by have := (own_lt h.own e).1; omega
 have hsz := hgrow.size;have hqA := h.lt;have hqb : w1.heap[q]? = A.heap[q]? := hgrow.block q hqA (fun e => hqv e.symm);have hcell : w1.cell? ⟨q, 0, none⟩ = some v := (World.cell?_of_block (a := ⟨q, 0, none⟩) hqb).trans h.cell;have hother : ∀ k, k ≠ q → (w1.setCell ⟨q, 0, none⟩ v').heap[k]? = w1.heap[k]? := fun k hk => Below.heap_setCell _ _ _ k hk
 refine ⟨⟨by simp; omega, World.cell?_setCell_same _ _ _ hcell, ?_, ?_⟩, ⟨hgrow.os, hgrow.tape, hgrow.output, by simpa using hsz, fun k hk hkq hkv => (hother k hkq).trans (hgrow.block k hk (fun e => hkv e.symm)), ?_⟩⟩
 ·rw [World.frozen?_setCell]; exact (World.frozen?_of_block (a := ⟨q, 0, none⟩) hqb).trans h.free
 ·rw [List.length_append, List.map_append];refine ⟨hown.1, ?_⟩;rcases hown.2 with ⟨h0, h00⟩ | ⟨g', cap', cur, h0, h1, h2, h3, h4, h5, h6⟩
  ·exact .inl ⟨h0, h00⟩
  ·exact .inr ⟨g', cap', cur, h0, h1, (hother g' (by omega)).trans h2, h3, h4, h5, h6⟩
 ·rcases hat with e | e
  ·exact .inl e
  ·exact .inr ⟨_, e, Nat.le_refl _⟩
theorem PenAt.far {U8 : TypeId} {A w1 : World} {q : Nat} {v : Value} {l : List UInt8} (h : PenAt U8 A q v l) (hgrow : A.grownBy w1 v.ownBlock) : w1.cell? ⟨q, 0, none⟩ = some v ∧ w1.frozen? ⟨q, 0, none⟩ = false := by
 have hqv : v.ownBlock ≠ some q := fun e => by have := (own_lt h.own e).1; omega
 have hqb : w1.heap[q]? = A.heap[q]? := hgrow.block q h.lt (fun e => hqv e.symm);exact ⟨(World.cell?_of_block (a := ⟨q, 0, none⟩) hqb).trans h.cell, (World.frozen?_of_block (a := ⟨q, 0, none⟩) hqb).trans h.free⟩
set_option maxRecDepth 100000 in
set_option maxHeartbeats 2000000 in
theorem penText (q : Nat) (v : Value) (l : List UInt8) (hl : l.length ≤ 1000000) (m : List UInt8) (am : Option Addr) (n c : Nat) (hn : n ≤ 1000000) (w : World) (hm : BsAt w q am n c m) (h : PenAt 5 w q v l) :
  Calls Tryz.prog 36 #[.pointer (some ⟨q, 0, none⟩), .slice am n c] w fun e w' => e = .returned (.tuple #[]) ∧ ∃ v', PenAt 5 w' q v' (l ++ putText m) ∧ Penned q v w w' v' := by
 obtain ⟨i0, hi, hz0, hz1, hz2⟩ := info_parts infoU8;have hlen := hm.hlen;subst hlen;have H := Hh h;have HM := Hh hm;clear h hm;go_enter Tryz.func36, Tryz.ntmps36
 go_wp2_with fail;refine (penNum q m.length (by omega) v l hl w H.out).mono ?_;rintro e w1 ⟨rfl, v1, hp1, ht1⟩;have hb1 := ht1.below H.out (Nat.le_refl q);have HM1 := Hh (HM.out.below hb1 (Nat.le_refl _));obtain ⟨L, hL⟩ : ∃ L, L = l ++ putNum m.length := ⟨_, rfl⟩
 have hpl : L.length ≤ 1000009 := by have := le_len8 (show m.length < 18446744073709551616 by omega); rw [hL]; simp [putNum]; omega
 rw [← hL] at hp1;have HL := Hh hL;have HP1 := Hh hp1;have HT1 := Hh ht1;have hc1 := hp1.cell;have hf1 := hp1.free;have hsz := hp1.lt;clear hp1 ht1 hb1 hL;go_wp2_with (at_builtin; refine wpList_append_sl _ rfl _ _ 27 rfl (q + 1) 5 i0 (.int .u8 0) 1 1 Tryz.underlying27 hi hz0 hz1 hz2 rfl (by decide) _ _ _ rfl HP1.out.own q am m.length c (m.map bv) rfl HM1.out.sl (bvs_oneCell _) ?c1 ?c2 ?c3 ?_)
 case c1 => unfold maxLen; omega
 case c2 => omega
 case c3 => omega
 intro a2 c2 w2 hown hgrow hat;obtain ⟨hc2, hf2⟩ := HP1.out.far hgrow;have hfin := HP1.out.append hown hgrow hat;have HF := Hh hfin;clear hown hgrow hat hfin;go_wp2;go_end0;obtain ⟨f1, f2⟩ := HF.out;exact ⟨rfl, _, by rw [putText, ← List.append_assoc, ← HL.out]; exact f1, HT1.out.trans f2⟩
end Go.Proofs.YtogcnfhmcpkdcaaGreat
namespace Go.Proofs.YtogcnfhmcpkdcaaGreat
open Go.RowKit
set_option linter.unusedVariables false
theorem penBytes (q : Nat) (v : Value) (l : List UInt8) (hl : l.length ≤ 1000000000) (w : World) (h : PenAt 5 w q v l) :
  Calls Tryz.prog 38 #[.pointer (some ⟨q, 0, none⟩)] w fun e w' => ∃ a c, e = .returned (.slice a l.length c) ∧ BsAt w' w'.heap.size a l.length c l ∧ Below w.heap.size w w' ∧ w'.ownsRow w.heap.size 5 1 (.slice a l.length c) l.length (l.map bv) := by
 obtain ⟨a0, c0, rfl, hbs⟩ := bsAt_of_owns h.own (by omega);have hc := h.cell;go_enter Tryz.func38, Tryz.ntmps38
 go_wp2_with fail;refine (cloneB l a0 l.length c0 _ hbs).mono ?_;rintro e w1 ⟨a, c, rfl, h1, h2, h3⟩;go_wp2;go_ret;exact ⟨a, c, rfl, h1, h2, h3⟩
theorem BsAt.setOther {w : World} {B : Nat} {a : Option Addr} {n c : Nat} {l : List UInt8} (h : BsAt w B a n c l) {p : Addr} {u : Value} (hp : w.cell? p = some u) (hu : ∀ c : Int, u ≠ .int .u8 c) (v : Value) : BsAt (w.setCell p v) B a n c l :=
 ⟨h.hlen, h.hle, h.hmax, h.hnil, h.hbig, fun hn => let ⟨b, o, e, hl, hc⟩ := h.hat hn; ⟨b, o, e, hl, fun i hi => by
  have h1 := hc i hi;rw [← h1];have e2 : p ≠ ⟨b, o + i, none⟩ := fun e2 => by
   rw [← e2, hp] at h1;exact hu _ (Option.some.inj h1)
  exact World.cell?_setCell_other _ _ _ _ e2⟩⟩
theorem EyeAt.setOther {w : World} {q p o : Nat} {l : List UInt8} (h : EyeAt w q l) (hpq : p ≠ q) {u : Value} (hp : w.cell? ⟨p, o, none⟩ = some u) (hu : ∀ c : Int, u ≠ .int .u8 c) (v : Value) : EyeAt (w.setCell ⟨p, o, none⟩ v) q l := by
 obtain ⟨hq, a, n, c, h1, h2, h3⟩ := h;refine ⟨by simpa using hq, a, n, c, ?_, by simpa using h2, by simpa using h3.setOther hp hu v⟩;rw [World.cell?_setCell_other _ _ _ _ (fun e => by injection e with e1; exact hpq e1)];exact h1
end Go.Proofs.YtogcnfhmcpkdcaaGreat
namespace Go.Proofs.YtogcnfhmcpkdcaaGreat
open Go.RowKit
set_option linter.unusedVariables false
def Wrote (q : Nat) (w w' : World) (l m : List UInt8) (k : Nat) : Prop := ∃ v' l', l' = l ++ m ∧ l'.length ≤ l.length + k ∧ PenAt 5 w' q v' l' ∧ Below q w w'
theorem putNum_le9 {n : Nat} (h : n < 18446744073709551616) : (putNum n).length ≤ 9 := by have := le_len8 h; simp [putNum]; omega
theorem penNumB (q n : Nat) (hn : n < 18446744073709551616) (v : Value) (l : List UInt8) (hl : l.length ≤ 1000000) (w : World) (h : PenAt 5 w q v l) :
  Calls Tryz.prog 35 #[.pointer (some ⟨q, 0, none⟩), .int .u64 n] w fun e w' => e = .returned (.tuple #[]) ∧ Wrote q w w' l (putNum n) 9 :=
 (penNum q n hn v l hl w h).mono fun e w' ⟨he, v', hp, ht⟩ => ⟨he, v', _, rfl, by rw [List.length_append]; have := putNum_le9 hn; omega, hp, ht.below h (Nat.le_refl _)⟩
theorem penTextB (q : Nat) (v : Value) (l : List UInt8) (hl : l.length ≤ 1000000) (m : List UInt8) (am : Option Addr) (n c : Nat) (hn : n ≤ 1000000) (w : World) (hm : BsAt w q am n c m) (h : PenAt 5 w q v l) :
  Calls Tryz.prog 36 #[.pointer (some ⟨q, 0, none⟩), .slice am n c] w fun e w' => e = .returned (.tuple #[]) ∧ Wrote q w w' l (putText m) (9 + n) :=
 (penText q v l hl m am n c hn w hm h).mono fun e w' ⟨he, v', hp, ht⟩ => ⟨he, v', _, rfl, by
  rw [List.length_append, putText, List.length_append];have h1 := hm.hlen;have := putNum_le9 (show m.length < 18446744073709551616 by omega);omega, hp, ht.below h (Nat.le_refl _)⟩
theorem PenAt.new (T : TypeId) (w : World) : PenAt 5 (w.alloc (.cells #[.slice none 0 0] T)) w.heap.size (.slice none 0 0) [] :=
 ⟨by simp, by simp [go_sem], by simp [go_sem], ⟨rfl, .inl ⟨rfl, rfl⟩⟩⟩
end Go.Proofs.YtogcnfhmcpkdcaaGreat
