/-
  Contracts of the reference's Right, fits, Last, At of a line.
  The plain law of the reference's From: a loop over all items. No program in sight.
  Contract of the reference's From of a line.
  Contract of the reference's Drop of a line.
-/
import Derived.Test.YtogcnfhmcpkdcaaGreatLineM9
import Derived.Test.YtogcnfhmcpkdcaaGreatLineLaw
namespace Go.Proofs.YtogcnfhmcpkdcaaGreat
open Go.RowKit
set_option linter.unusedVariables false
set_option linter.unusedSimpArgs false

/-- the reference's line in memory -/
structure RAt (w : World) (B : Nat) (x : PLine) (a : Option Addr) (c : Nat) (ms : List MItem) : Prop where
  its : ItemsAt w B a ms.length c ms
  eq : ms.map MItem.it = x.l
abbrev rv (x : PLine) (a : Option Addr) (n c : Nat) : Value := .agg #[.int .i64 x.base, .int .i64 x.term, .slice a n c]

theorem RAt.len {w : World} {B : Nat} {x : PLine} {a : Option Addr} {c : Nat} {ms : List MItem} (h : RAt w B x a c ms) : ms.length = x.l.length := by rw [← h.eq]; simp
theorem RAt.below {w w' : World} {B B' : Nat} {x : PLine} {a : Option Addr} {c : Nat} {ms : List MItem} (h : RAt w B x a c ms) (hb : Below B' w w') (hB : B ≤ B') : RAt w' B x a c ms := ⟨h.its.below hb hB, h.eq⟩
theorem RAt.mono {w : World} {B B' : Nat} {x : PLine} {a : Option Addr} {c : Nat} {ms : List MItem} (h : RAt w B x a c ms) (hB : B ≤ B') : RAt w B' x a c ms := ⟨h.its.mono hB, h.eq⟩

end Go.Proofs.YtogcnfhmcpkdcaaGreat

namespace Go.Proofs.YtogcnfhmcpkdcaaGreat
set_option linter.unusedVariables false
set_option linter.unusedSimpArgs false

/-- what is taken of the first k items -/
def fromL {α : Type} (l : List α) (base last i most : Int) (k : Nat) : List α := if i ≤ base ∨ last < i then [] else ((l.drop (i - base - 1).toNat).take (k - (i - base - 1).toNat)).take most.toNat

theorem fromL_zero {α : Type} (l : List α) (base last i most : Int) : fromL l base last i most 0 = [] := by
  unfold fromL; split <;> simp

theorem fromL_yes {α : Type} {l : List α} {base last i most : Int} {k : Nat} {m : α} (hm : l[k]? = some m) (h1 : base < i) (h2 : i ≤ base + 1 + k) (h3 : i ≤ last) (h4 : ((fromL l base last i most k).length : Int) < most) :
    fromL l base last i most (k + 1) = fromL l base last i most k ++ [m] := by
  have hk : k < l.length := (List.getElem?_eq_some_iff.1 hm).1
  have e : l[k] = m := by simpa [List.getElem?_eq_getElem hk] using hm
  unfold fromL at *
  rw [if_neg (by omega)] at h4 ⊢
  rw [if_neg (by omega)]
  obtain ⟨D, hD⟩ : ∃ D : Nat, (i - base - 1).toNat = D := ⟨_, rfl⟩
  obtain ⟨M, hM⟩ : ∃ M : Nat, most.toNat = M := ⟨_, rfl⟩
  rw [hD, hM] at h4 ⊢
  have hDk : D ≤ k := by omega
  simp only [List.length_take, List.length_drop] at h4
  rw [List.take_of_length_le (l := (l.drop D).take (k + 1 - D)) (by simp; omega), List.take_of_length_le (l := (l.drop D).take (k - D)) (by simp; omega)]
  rw [show k + 1 - D = k - D + 1 by omega, List.take_succ_eq_append_getElem (by simp; omega)]
  congr 2
  rw [List.getElem_drop]
  simp only [show D + (k - D) = k by omega, e]

theorem fromL_no {α : Type} {l : List α} {base last i most : Int} {k : Nat} (h : ¬ (base < i ∧ i ≤ base + 1 + k ∧ i ≤ last)) : fromL l base last i most (k + 1) = fromL l base last i most k := by
  unfold fromL
  by_cases h1 : i ≤ base ∨ last < i
  · rw [if_pos h1, if_pos h1]
  · rw [if_neg h1, if_neg h1, show k + 1 - (i - base - 1).toNat = 0 by omega, show k - (i - base - 1).toNat = 0 by omega]

theorem fromL_le {α : Type} (l : List α) (base last i most : Int) (k : Nat) : (fromL l base last i most k).length ≤ k := by
  unfold fromL
  split
  · simp
  · simp only [List.length_take]; omega

theorem fromL_end {α : Type} {l : List α} {base last i most : Int} {k : Nat} (h : l.length ≤ k ∨ most ≤ ((fromL l base last i most k).length : Int)) :
    fromL l base last i most k = if i ≤ base ∨ last < i ∨ most < 1 then [] else (l.drop (i - base - 1).toNat).take most.toNat := by
  unfold fromL at *
  by_cases h1 : i ≤ base ∨ last < i
  · rw [if_pos h1, if_pos (by omega)]
  · rw [if_neg h1] at h ⊢
    by_cases h2 : most < 1
    · rw [if_pos (by omega), show most.toNat = 0 by omega]; simp
    · rw [if_neg (by omega)]
      simp only [List.length_take, List.length_drop] at h
      rw [List.take_take]
      rcases h with h | h
      · rw [← List.take_take, List.take_of_length_le (l := l.drop _) (by simp; omega)]
      · rw [Nat.min_eq_left (by omega)]

theorem fromL_map {α β : Type} (f : α → β) (l : List α) (base last i most : Int) (k : Nat) : (fromL l base last i most k).map f = fromL (l.map f) base last i most k := by
  unfold fromL
  split
  · rfl
  · rw [List.map_take, List.map_take, List.map_drop]

theorem fromL_sub {α : Type} {l : List α} {base last i most : Int} {k : Nat} {m : α} (h : m ∈ fromL l base last i most k) : m ∈ l := by
  unfold fromL at h
  split at h
  · simp at h
  · exact List.mem_of_mem_drop (List.mem_of_mem_take (List.mem_of_mem_take h))
end Go.Proofs.YtogcnfhmcpkdcaaGreat

namespace Go.Proofs.YtogcnfhmcpkdcaaGreat
open Go.RowKit
set_option linter.unusedVariables false
set_option linter.unusedSimpArgs false

end Go.Proofs.YtogcnfhmcpkdcaaGreat

namespace Go.Proofs.YtogcnfhmcpkdcaaGreat
open Go.RowKit
set_option linter.unusedVariables false
set_option linter.unusedSimpArgs false

/-- a slice that is as it was, or lies in a block of the call's own -/
def Fresh (w W : World) (a a' : Option Addr) : Prop := a' = a ∨ ∀ ad, a' = some ad → w.heap.size ≤ ad.block ∧ ad.block < W.heap.size
theorem Fresh.own {w W : World} {N T size n c k : Nat} {a a' : Option Addr} {cs : List Value} (h : W.ownsRow N T size (.slice a' n c) k cs) (hN : w.heap.size ≤ N) : Fresh w W a a' :=
  .inr fun ad e => by
    subst e
    have h9 := own_lt h (g := ad.block) rfl
    exact ⟨by omega, h9.2⟩

end Go.Proofs.YtogcnfhmcpkdcaaGreat
