/-
  The plain law of the reference's From: a loop over all items. No program in sight.
-/
import Derived.Test.YtogcnfhmcpkdcaaLineLaw
namespace Go.Proofs.Ytogcnfhmcpkdcaa
set_option linter.unusedVariables false
set_option linter.unusedSimpArgs false

/-- what is taken of the first k items -/
def fromL {α : Type} (l : List α) (base last i most : Int) (k : Nat) : List α := if i ≤ base ∨ last < i then [] else ((l.drop (i - base - 1).toNat).take (k - (i - base - 1).toNat)).take most.toNat

theorem fromL_zero {α : Type} (l : List α) (base last i most : Int) : fromL l base last i most 0 = [] := by
  unfold fromL; split <;> simp

theorem fromL_yes {α : Type} {l : List α} {base last i most : Int} {k : Nat} {m : α} (hm : l[k]? = some m) (h1 : base < i) (h2 : i ≤ base + 1 + k) (h3 : i ≤ last) (h4 : ((fromL l base last i most k).length : Int) < most) :
    fromL l base last i most (k + 1) = fromL l base last i most k ++ [m] := by
  have hk : k < l.length := (List.getElem?_eq_some_iff.1 hm).1
  have e : l[k] = m := by simpa [List.getElem?_eq_getElem hk] using hm
  unfold fromL at *
  rw [if_neg (by omega)] at h4 ⊢
  rw [if_neg (by omega)]
  obtain ⟨D, hD⟩ : ∃ D : Nat, (i - base - 1).toNat = D := ⟨_, rfl⟩
  obtain ⟨M, hM⟩ : ∃ M : Nat, most.toNat = M := ⟨_, rfl⟩
  rw [hD, hM] at h4 ⊢
  have hDk : D ≤ k := by omega
  simp only [List.length_take, List.length_drop] at h4
  rw [List.take_of_length_le (l := (l.drop D).take (k + 1 - D)) (by simp; omega), List.take_of_length_le (l := (l.drop D).take (k - D)) (by simp; omega)]
  rw [show k + 1 - D = k - D + 1 by omega, List.take_succ_eq_append_getElem (by simp; omega)]
  congr 2
  rw [List.getElem_drop]
  simp only [show D + (k - D) = k by omega, e]

theorem fromL_no {α : Type} {l : List α} {base last i most : Int} {k : Nat} (h : ¬ (base < i ∧ i ≤ base + 1 + k ∧ i ≤ last)) : fromL l base last i most (k + 1) = fromL l base last i most k := by
  unfold fromL
  by_cases h1 : i ≤ base ∨ last < i
  · rw [if_pos h1, if_pos h1]
  · rw [if_neg h1, if_neg h1, show k + 1 - (i - base - 1).toNat = 0 by omega, show k - (i - base - 1).toNat = 0 by omega]

theorem fromL_le {α : Type} (l : List α) (base last i most : Int) (k : Nat) : (fromL l base last i most k).length ≤ k := by
  unfold fromL
  split
  · simp
  · simp only [List.length_take]; omega

theorem fromL_end {α : Type} {l : List α} {base last i most : Int} {k : Nat} (h : l.length ≤ k ∨ most ≤ ((fromL l base last i most k).length : Int)) :
    fromL l base last i most k = if i ≤ base ∨ last < i ∨ most < 1 then [] else (l.drop (i - base - 1).toNat).take most.toNat := by
  unfold fromL at *
  by_cases h1 : i ≤ base ∨ last < i
  · rw [if_pos h1, if_pos (by omega)]
  · rw [if_neg h1] at h ⊢
    by_cases h2 : most < 1
    · rw [if_pos (by omega), show most.toNat = 0 by omega]; simp
    · rw [if_neg (by omega)]
      simp only [List.length_take, List.length_drop] at h
      rw [List.take_take]
      rcases h with h | h
      · rw [← List.take_take, List.take_of_length_le (l := l.drop _) (by simp; omega)]
      · rw [Nat.min_eq_left (by omega)]

theorem fromL_map {α β : Type} (f : α → β) (l : List α) (base last i most : Int) (k : Nat) : (fromL l base last i most k).map f = fromL (l.map f) base last i most k := by
  unfold fromL
  split
  · rfl
  · rw [List.map_take, List.map_take, List.map_drop]

theorem fromL_sub {α : Type} {l : List α} {base last i most : Int} {k : Nat} {m : α} (h : m ∈ fromL l base last i most k) : m ∈ l := by
  unfold fromL at h
  split at h
  · simp at h
  · exact List.mem_of_mem_drop (List.mem_of_mem_take (List.mem_of_mem_take h))
end Go.Proofs.Ytogcnfhmcpkdcaa
