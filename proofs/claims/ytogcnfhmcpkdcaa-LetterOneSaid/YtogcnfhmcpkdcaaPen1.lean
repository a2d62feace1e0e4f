/-
  slices.Backward at bytes: the closure that it hands back tells all elements, the last first, to every loop body that leaves the elements' block and the box as they were.
-/
import Derived.Test.YtogcnfhmcpkdcaaField1
import Derived.RangeFuncBox
import Derived.RangeFuncLeaves
import Derived.Shelf.Abstract
import Derived.OwnWalkIn
import Derived.TacticsInMore
import Derived.LoopNIn
import Derived.LoopIn
namespace Go.Proofs.Ytogcnfhmcpkdcaa
open Go.RowKit Go.Shelf
set_option linter.unusedVariables false
attribute [local go_sem] Oper.semAt_some

/-- these blocks are as they were -/
def KeepAt (S : Nat → Prop) (A B : World) : Prop := ∀ k, S k → B.heap[k]? = A.heap[k]?

/-- the k-th that comes -/
def nth (l : List UInt8) (k : Nat) : Nat × UInt8 := (l.length - 1 - k, l.getD (l.length - 1 - k) 0)
def come (l : List UInt8) (k : Nat) : List (Nat × UInt8) := (List.range k).map (nth l)
theorem come_succ (l : List UInt8) (k : Nat) : come l (k + 1) = come l k ++ [nth l k] := by simp [come, List.range_succ]
theorem come_length (l : List UInt8) (k : Nat) : (come l k).length = k := by simp [come]

theorem come_all (l : List UInt8) : (come l l.length).map (·.2) = l.reverse := by
  apply List.ext_getElem
  · simp [come]
  · intro i h1 h2
    simp [come] at h1
    simp [come, nth, List.getD, List.getElem?_eq_getElem (show l.length - 1 - i < l.length by omega)]

set_option maxRecDepth 100000 in
set_option maxHeartbeats 2000000 in
theorem backward1_in (F : Fence) (n : Nat) (h7 : F.fn 160) (hro : F.round = none) (hn : 1 ≤ n) (y Bs : Nat) (S : Nat → Prop) (l : List UInt8) (a : Option Addr) (c : Nat) (J Jx : List (Nat × UInt8) → World → Prop)
    (hY : ∀ pre x W, J pre W → pre.length < l.length → YieldAt F (n - 1) Try.prog y #[.int .i64 (x.1 : Int), .int .u8 (x.2.toNat : Int)] W fun e W' =>
      (e = .returned (.bool true) ∧ J (pre ++ [x]) W' ∧ KeepAt S W W') ∨ (e = .returned (.bool false) ∧ Jx (pre ++ [x]) W'))
    (W : World) (hBs : W.cell? ⟨Bs, 0, none⟩ = some (.slice a l.length c)) (hSB : S Bs) (hbs : BsAt W W.heap.size a l.length c l) (hSb : ∀ b o, a = some ⟨b, o, none⟩ → S b) (h0 : J [] W) :
    CallsIn F n Try.prog 160 #[.func (.yield y) #[] #[], .pointer (some ⟨Bs, 0, none⟩)] W fun e W' => (∃ v, e = .returned v) ∧
      ((∃ ys, ys = come l l.length ∧ J ys W') ∨ (∃ pre, (∃ k, k ≤ l.length ∧ pre = come l k) ∧ Jx pre W')) := by
  have hbg := hbs.hbig
  refine callsIn_of_wp Try.func160 rfl h7 ?_ hro
  simp only [Try.ntmps160, List.size_toArray, List.length_cons, List.length_nil, Nat.reduceAdd, Nat.reduceSub, Array.replicate_succ, Array.replicate_zero, List.push_toArray, List.append_toArray, List.nil_append, List.cons_append]
  gi_wp2
  gi_loopw [3] (fun i wr => ∃ k : Nat, k ≤ l.length ∧ i = .int .i64 ((l.length : Int) - 1 - k) ∧ J (come l k) wr ∧ KeepAt S W wr)
    (fun i _ => (intOf i + 1).toNat)
  case atStart => exact ⟨0, Nat.zero_le _, by simp, h0, fun _ _ => rfl⟩
  case round =>
    obtain ⟨k, hk, rfl, hJs, hnx⟩ := hrel
    have hbx : wr.cell? ⟨Bs, 0, none⟩ = some (.slice a l.length c) := (World.cell?_of_block (hnx Bs hSB)).trans hBs
    by_cases hlt : k < l.length
    · obtain ⟨b, o, rfl, hb, hc⟩ := hbs.hat (by omega)
      have hcx : wr.cell? ⟨b, o + (l.length - 1 - k), none⟩ = some (.int .u8 ((nth l k).2.toNat : Int)) := (World.cell?_of_block (a := ⟨b, o + (l.length - 1 - k), none⟩) (hnx b (hSb b o rfl))).trans (hc _ (by omega))
      obtain ⟨fn, tmps, assign, body, hy, hR⟩ := hY _ (nth l k) wr hJs (by rw [come_length]; exact hlt)
      have hi1 : (nth l k).1 = l.length - 1 - k := rfl
      rw [hi1] at hy
      obtain ⟨m, hm⟩ : ∃ m, m = l.length - 1 - k := ⟨_, rfl⟩
      have hm2 : (l.length : Int) - 1 - k = (m : Int) := by omega
      rw [← hm] at hcx hy
      rw [hm2]
      have hml : (m : Int) < (l.length : Int) := by omega
      have HM := Lib.hid hm
      clear hm hi1 hm2
      have HC := Lib.hid hc
      have HN := Lib.hid hnx
      have HBS := Lib.hid hbs
      clear hc hnx hbs hSb
      gi_wp2
      refine hR.mono ?_
      rintro e W3 (⟨rfl, hJ3, hk3⟩ | ⟨rfl, hJx3⟩)
      · gi_wp2
        go_roundw
        case rel => exact ⟨k + 1, by omega, by have := HM.out; congr 1; omega, by rw [come_succ]; exact hJ3, fun j hj => (hk3 j hj).trans (HN.out j hj)⟩
        case measure => have := HM.out; simp [intOf]; try omega
      · gi_wp2
        refine bodyPost_ret (results_none rfl _ _ _) rfl ?_
        exact ⟨⟨_, rfl⟩, .inr ⟨_, ⟨k + 1, by omega, (come_succ _ _).symm⟩, hJx3⟩⟩
    · have hkl : k = l.length := by omega
      rw [show (l.length : Int) - 1 - k = -1 by omega]
      rw [hkl] at hJs
      gi_wp2
      go_end0
      exact ⟨⟨_, rfl⟩, .inl ⟨_, rfl, hJs⟩⟩

set_option maxHeartbeats 1000000 in
theorem backward_in (F : Fence) (n : Nat) (h5 : F.fn 103) (hro : F.round = none) (a : Option Addr) (len cap : Nat) (w : World) :
    CallsIn F n Try.prog 103 #[.slice a len cap] w fun e w' => e = .returned (.func (.func 160) #[] #[.pointer (some ⟨w.heap.size, 0, none⟩)]) ∧ w' = w.alloc (.cells #[.slice a len cap] 22) := by
  refine callsIn_of_wp Try.func103 rfl h5 ?_ hro
  simp only [Try.ntmps103, List.size_toArray, List.length_cons, List.length_nil, Nat.reduceAdd, Nat.reduceSub, Array.replicate_succ, Array.replicate_zero, List.push_toArray, List.append_toArray, List.nil_append, List.cons_append]
  gi_wp2
  go_ret
  exact ⟨rfl, rfl⟩

theorem backward_stops (F : Fence) (n : Nat) (h7 : F.fn 160) (hro : F.round = none) (hn : 1 ≤ n) (Bs : Nat) (S : Nat → Prop) (l : List UInt8) (a : Option Addr) (c : Nat) (w : World) (hBs : Bs < w.heap.size)
    (hc : w.cell? ⟨Bs, 0, none⟩ = some (.slice a l.length c)) (hSB : S Bs) (hbs : BsAt w w.heap.size a l.length c l) (hSb : ∀ b o, a = some ⟨b, o, none⟩ → S b) :
    SeqStopsK F n Try.prog 160 #[.pointer (some ⟨Bs, 0, none⟩)] (fun x : Nat × UInt8 => #[Value.int .i64 (x.1 : Int), Value.int .u8 (x.2.toNat : Int)]) (KeepAt S) (fun ys => ys = come l l.length)
      (fun pre => ∃ k, k ≤ l.length ∧ pre = come l k) l.length w := fun y J Jx W hW _ _ hY h0 =>
  backward1_in F n h7 hro hn y Bs S l a c J Jx hY W ((hW.cell (p := ⟨Bs, 0, none⟩) hBs).trans hc) hSB ((hbs.below hW (Nat.le_refl _)).mono hW.size) hSb h0
end Go.Proofs.Ytogcnfhmcpkdcaa
