/-
  The plain law of LineFull: lines that are full. No program in sight.
-/
import Derived.Test.YtogcnfhmcpkdcaaLineLaw
namespace Go.Proofs.Ytogcnfhmcpkdcaa
set_option linter.unusedVariables false
set_option linter.unusedSimpArgs false

/-- a line of i items of term 2, up to the greatest index -/
def xN (n i : Nat) : PLine := ⟨1099511627776 - (n : Int), 1, List.replicate i (2, [])⟩
theorem xN_last (n i : Nat) : (xN n i).last = 1099511627776 - (n : Int) + (i : Int) := by simp [PLine.last, xN]
theorem xN_add {n i : Nat} (hn : n ≤ 39) (hi : i < n) : (xN n i).add (2, []) = (xN n (i + 1), 1099511627776 - (n : Int) + 1 + (i : Int)) := by
  unfold PLine.add
  rw [if_pos]
  · rw [xN_last]
    simp only [xN, List.replicate_succ', Prod.mk.injEq, true_and]
    omega
  · refine ⟨by rfl, ?_⟩
    simp [fitsB, xN]
    omega
theorem xN_full {n : Nat} (hn : n ≤ 39) : (xN n n).add (2, []) = (xN n n, 0) := by
  unfold PLine.add
  rw [if_neg]
  rintro ⟨-, h⟩
  simp [fitsB, xN] at h
  omega
theorem xN_good {n i : Nat} (hn : n ≤ 39) (hi : i ≤ n) : (xN n i).Good := by
  refine ⟨by simp [xN]; omega, by simp [xN]; omega, by simp [xN], by simp [xN], by simp [xN]; omega, by simp [xN]; omega, fun it h => ?_⟩
  simp [xN] at h
  rw [h.2]; rfl
def l0 (n : Nat) : Int := if n = 0 then 1 else 2
theorem xN_tm {n : Nat} (hn : n ≤ 39) : (xN n n).tm 1099511627776 = l0 n := by
  unfold PLine.tm l0
  by_cases h : n = 0
  · subst h; simp [xN]
  · rw [if_neg (by simp [xN]; omega), if_neg (by rw [xN_last]; simp [xN]; omega), if_neg h]
    have h1 : (1099511627776 - (xN n n).base - 1).toNat < n := by simp [xN]; omega
    simp only [xN] at h1 ⊢
    rw [List.getD, List.getElem?_eq_getElem (by simpa using h1)]
    simp
theorem xN_join {n : Nat} (hn : n ≤ 39) : (xN n n).join 1099511627776 (l0 n) [(3, [])] = (xN n n, 0, false) := by
  unfold PLine.join
  rw [if_neg, if_neg]
  · have hd : (xN n n).diff (1099511627776 + 1) [(3, [])] = some (1099511627776 + 1, [(3, [])]) := by
      simp only [PLine.diff]
      rw [if_neg]
      rintro (h | h)
      · simp [xN] at h; omega
      · unfold PLine.tm at h
        rw [if_neg (by simp [xN]; omega), if_pos (by right; rw [xN_last]; omega)] at h
        simp at h
    rw [hd]
    simp only
    rw [if_neg]
    intro h
    simp [fitsB, xN] at h
    try omega
  · rw [xN_tm hn]; simp
  · rw [xN_last]
    have : ([(3, [])] : List PItem).any (fun it => !rightI it) = false := by rfl
    rw [this]; simp

/-- a line of i items of term 1, from 0 on -/
def yN (i : Nat) : PLine := ⟨0, 0, List.replicate i (1, [])⟩
theorem yN_last (i : Nat) : (yN i).last = (i : Int) := by simp [PLine.last, yN]
theorem yN_good {i : Nat} (hi : i ≤ 4096) : (yN i).Good := by
  refine ⟨by simp [yN], by simp [yN], by simp [yN], by simp [yN], by simp [yN]; omega, by simp [yN]; omega, fun it h => ?_⟩
  simp [yN] at h
  rw [h.2]; rfl
theorem rep_right (c : Nat) : (List.replicate c ((1, []) : PItem)).any (fun it => !rightI it) = false := by
  rw [List.any_eq_false]
  intro x hx
  simp at hx
  rw [hx.2]; decide
theorem yN_join1 {M : Nat} (h0 : 0 < M) (hM : M ≤ 4096) : (yN 0).join 0 0 (List.replicate M (1, [])) = (yN M, 1, true) := by
  unfold PLine.join
  rw [if_neg, if_neg]
  · have hd : (yN 0).diff (0 + 1) (List.replicate M (1, [])) = some (1, List.replicate M (1, [])) := by
      obtain ⟨k, rfl⟩ : ∃ k, M = k + 1 := ⟨M - 1, by omega⟩
      rw [List.replicate_succ]
      simp only [PLine.diff]
      rw [if_neg]
      · rfl
      · simp [PLine.tm, yN, PLine.last]
    rw [hd]
    simp only [List.length_replicate]
    rw [if_pos (by simp [fitsB, yN]; omega)]
    simp [yN]
  · simp [PLine.tm, yN]
  · rw [rep_right]
    simp [PLine.last, yN]
theorem yN_tm {M : Nat} {i : Int} (h1 : 1 ≤ i) (h2 : i ≤ M) : (yN M).tm i = 1 := by
  unfold PLine.tm
  rw [if_neg (by simp [yN]; omega), if_neg (by rw [yN_last]; simp [yN]; omega)]
  have h3 : (i - (yN M).base - 1).toNat < M := by simp [yN]; omega
  simp only [yN] at h3 ⊢
  rw [List.getD, List.getElem?_eq_getElem (by simpa using h3)]
  simp
theorem yN_diff {M : Nat} : ∀ (c : Nat) (i : Int), 1 ≤ i → i + (c : Int) = M + 1 → (yN M).diff i (List.replicate (c + 1) (1, [])) = some ((M : Int) + 1, [(1, [])])
  | 0, i, h1, h2 => by
    have : i = (M : Int) + 1 := by omega
    subst this
    simp only [List.replicate, PLine.diff]
    rw [if_neg]
    rintro (h | h)
    · simp [yN] at h; omega
    · unfold PLine.tm at h
      rw [if_neg (by simp [yN]; omega), if_pos (by right; rw [yN_last]; omega)] at h
      simp at h
  | c + 1, i, h1, h2 => by
    rw [List.replicate_succ, PLine.diff_step (by simp) (.inr (by rw [yN_tm h1 (by omega)]; rfl))]
    simp only [List.drop_succ_cons, List.drop_zero]
    exact yN_diff c (i + 1) (by omega) (by omega)
theorem yN_join2 {M pc : Nat} (hM : 4096 ≤ M) (hp : pc ≤ 255) : (yN M).join ((M : Int) - (pc : Int)) 1 (List.replicate (pc + 1) (1, [])) = (yN M, 0, false) := by
  unfold PLine.join
  rw [if_neg, if_neg]
  · rw [yN_diff pc ((M : Int) - (pc : Int) + 1) (by omega) (by omega)]
    simp only
    rw [if_neg]
    simp [fitsB, yN]
    omega
  · rw [yN_tm (by omega) (by omega)]; simp
  · rw [rep_right, yN_last]
    simp; omega
theorem yN_full {M : Nat} (hM : 4096 ≤ M) : (yN M).add (1, []) = (yN M, 0) := by
  unfold PLine.add
  rw [if_neg]
  rintro ⟨-, h⟩
  simp [fitsB, yN] at h
  omega
end Go.Proofs.Ytogcnfhmcpkdcaa
