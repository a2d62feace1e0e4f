/-
  Slice expressions of a slice that reads as cells: what comes out reads as the part. No program in sight.
-/
import Derived.Test.YtogcnfhmcpkdcaaGreatSlMem
import Derived.Laws.Slices
namespace Go.Proofs.YtogcnfhmcpkdcaaGreat
open Go.RowKit
set_option linter.unusedVariables false
theorem SlAt.from_ {w : World} {B size : Nat} {a : Option Addr} {n c : Nat} {xs : List Value} (h : SlAt w B size a n c xs) {k : Nat} (hk : k ≤ n) :
  SlAt w B size (if c = k then a else a.map (·.add (k * size))) (n - k) (c - k) (xs.drop (k * size)) := by
 have h1 := h.hle;have h2 := h.hmax;refine ⟨by rw [List.length_drop, h.hlen, Nat.sub_mul], by omega, by omega, fun e => ?_, fun hp => ?_⟩
 ·by_cases hc : c = k
  ·omega
  ·rw [if_neg hc] at e;have := h.hnil (by simpa using e);omega
 ·have hp2 : k * size < xs.length := by simp at hp; omega
  have hkn : k < n := by
   rw [h.hlen] at hp2;exact Nat.lt_of_mul_lt_mul_right hp2
  obtain ⟨b, o, e, hb, hc⟩ := h.hat (by omega);rw [if_neg (by omega), e];refine ⟨b, o + k * size, by simp [Addr.add_lit], hb, fun i hi => ?_⟩;rw [Nat.add_assoc, hc _ (by simp at hi; omega), List.getElem?_drop]
theorem SlAt.upto {w : World} {B size : Nat} {a : Option Addr} {n c : Nat} {xs : List Value} (h : SlAt w B size a n c xs) {k m : Nat} (hk : k ≤ n) (hm : k ≤ m) (hmc : m ≤ c) :
  SlAt w B size a k m (xs.take (k * size)) := by
 have h1 := h.hle;have h2 := h.hmax;have hkm : k * size ≤ n * size := Nat.mul_le_mul_right _ hk;refine ⟨by rw [List.length_take, h.hlen]; omega, hm, by omega, fun e => by have := h.hnil e; omega, fun hp => ?_⟩;have hp2 : 0 < xs.length := by simp at hp; omega
 obtain ⟨b, o, e, hb, hc⟩ := h.hat hp2;refine ⟨b, o, e, hb, fun i hi => ?_⟩;have hi2 : i < k * size := by simp at hi; omega
 rw [hc _ (by rw [h.hlen]; omega), List.getElem?_take_of_lt hi2]
theorem BsAt.ofSl {w : World} {B : Nat} {a : Option Addr} {n c : Nat} {l : List UInt8} (h : SlAt w B 1 a n c (l.map bv)) (hn : n ≤ 140737488355328) : BsAt w B a n c l := bsAt_of_slAt h hn
section
variable {P : Program} {T e : TypeId} {size : Nat} (hT : P.underlying T = some (.slice e)) (he : (P.info? e).map (·.size) = some size)
include hT he
theorem run_from (a : Option Addr) (n c : Nat) (kk : IntKind) (k : Nat) (hk : k ≤ n) (w : World) :
  (Instr.slice T (.slice a n c) (some (.int kk (k : Int))) none none).run P w = .ok (.slice (if c = k then a else a.map (·.add (k * size))) (n - k) (c - k)) w := by
 cases hi : P.info? e with
 | none => simp [hi] at he
 | some i =>
  have hs : i.size = size := by simpa [hi] using he
  simp [Instr.slice, run_underlying hT, Instr.sliceBounds, run_sliceBound, sizeOf, typeInfo, hi, hs, hk]
theorem run_upto (a : Option Addr) (n c : Nat) (kk : IntKind) (k : Nat) (hk : k ≤ c) (w : World) :
  (Instr.slice T (.slice a n c) none (some (.int kk (k : Int))) none).run P w = .ok (.slice a k c) w := by
 cases hi : P.info? e with
 | none => simp [hi] at he
 | some i =>
  simp [Instr.slice, run_underlying hT, Instr.sliceBounds, run_sliceBound, sizeOf, typeInfo, hi, hk];intro _;cases a <;> simp [Addr.add]
end
end Go.Proofs.YtogcnfhmcpkdcaaGreat
