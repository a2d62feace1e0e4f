/-
  The plain law of a line filled from another one by pieces: it is always a first part of that one. No program in sight.
-/
import Derived.Test.YtogcnfhmcpkdcaaLineLaw
namespace Go.Proofs.Ytogcnfhmcpkdcaa
set_option linter.unusedVariables false
set_option linter.unusedSimpArgs false

/-- a line that has the first k items of A -/
def fil (A : List PItem) (k : Nat) : PLine := ⟨0, 0, A.take k⟩

theorem fil_last {A : List PItem} {k : Nat} (hk : k ≤ A.length) : (fil A k).last = (k : Int) := by
  show (0 : Int) + ((A.take k).length : Int) = k
  rw [List.length_take]; omega

theorem fil_good {A : List PItem} {k : Nat} (hk : k ≤ A.length) (hA : A.length ≤ 4096) (hr : ∀ it ∈ A, rightI it = true) : (fil A k).Good := by
  have hl : (A.take k).length = k := by rw [List.length_take]; omega
  refine ⟨by simp [fil], by simp [fil], by simp [fil], by simp [fil], by simp only [fil, hl]; omega, by simp only [fil, hl]; omega, fun it hit => hr it (List.mem_of_mem_take hit)⟩

theorem fil_tm {A : List PItem} {k i : Nat} (hk : k ≤ A.length) (hi : i ≤ k) : (fil A k).tm i = if i = 0 then 0 else (A.getD (i - 1) (0, [])).1 := by
  unfold PLine.tm
  rw [fil_last hk]
  by_cases h0 : i = 0
  · subst h0; rfl
  · rw [if_neg (show ¬ ((i : Int) = (fil A k).base) by show ¬ ((i : Int) = 0); omega), if_neg (show ¬ ((i : Int) < (fil A k).base ∨ (k : Int) < (i : Int)) by show ¬ ((i : Int) < 0 ∨ _); omega), if_neg h0]
    have e : ((i : Int) - (fil A k).base - 1).toNat = i - 1 := by show ((i : Int) - 0 - 1).toNat = _; omega
    rw [e]
    show ((A.take k).getD (i - 1) (0, [])).1 = _
    simp only [List.getD, List.getElem?_take]
    rw [if_pos (by omega)]

theorem fil_tm_no {A : List PItem} {k : Nat} (hk : k ≤ A.length) : (fil A k).tm ((k : Int) + 1) = -1 := by
  unfold PLine.tm
  rw [fil_last hk, if_neg (show ¬ ((k : Int) + 1 = (fil A k).base) by show ¬ ((k : Int) + 1 = 0); omega), if_pos (.inr (by omega))]

theorem fil_diff {A : List PItem} {k : Nat} (hk : k ≤ A.length) (hr : ∀ it ∈ A, rightI it = true) : ∀ (d a n : Nat), a + d = k → a + n ≤ A.length →
    (fil A k).diff ((a : Int) + 1) ((A.drop a).take n) = if n ≤ d then none else some ((k : Int) + 1, (A.drop k).take (a + n - k))
  | 0, a, n, h, hn => by
    have ha : a = k := by omega
    subst ha
    cases n with
    | zero => simp [PLine.diff]
    | succ n =>
      rw [if_neg (by omega), show a + (n + 1) - a = n + 1 by omega]
      have hlt : a < A.length := by omega
      refine PLine.diff_stop (by simp; omega) ?_
      rw [fil_tm_no hk]
      have e : ((A.drop a).take (n + 1)).getD 0 (0, []) = A[a] := by simp [List.getD, List.getElem?_eq_getElem hlt]
      rw [e]
      have h9 := ((rightI_iff _).1 (hr _ (List.getElem_mem hlt))).1
      show ¬ ((a : Int) + 1 ≤ 0 ∨ _)
      omega
  | d + 1, a, n, h, hn => by
    cases n with
    | zero => simp [PLine.diff]
    | succ n =>
      have hlt : a < A.length := by omega
      have e : ((A.drop a).take (n + 1)).getD 0 (0, []) = A[a] := by simp [List.getD, List.getElem?_eq_getElem hlt]
      rw [PLine.diff_step (by simp; omega) (.inr (by
        rw [e]
        have h9 := fil_tm hk (i := a + 1) (by omega)
        rw [if_neg (by omega), show a + 1 - 1 = a by omega, getD_in hlt] at h9
        exact h9))]
      have e2 : ((A.drop a).take (n + 1)).drop 1 = (A.drop (a + 1)).take n := by
        rw [List.drop_take, List.drop_drop]
        simp
      rw [e2]
      have h9 := fil_diff hk hr d (a + 1) n (by omega) (by omega)
      rw [show ((a + 1 : Nat) : Int) + 1 = (a : Int) + 1 + 1 by omega] at h9
      rw [h9]
      by_cases h1 : n ≤ d
      · rw [if_pos h1, if_pos (by omega)]
      · rw [if_neg h1, if_neg (by omega), show a + 1 + n - k = a + (n + 1) - k by omega]

/-- a piece of A comes to a line that has the first k items -/
theorem fil_join {A : List PItem} {k : Nat} (hk : k ≤ A.length) (hA : A.length ≤ 4096) (hr : ∀ it ∈ A, rightI it = true) {a n : Nat} (hn : a + n ≤ A.length) {t : Int} (ht : t = if a = 0 then 0 else (A.getD (a - 1) (0, [])).1) :
    ∃ j k', k' ≤ A.length ∧ (fil A k).join a t ((A.drop a).take n) = (fil A k', j, decide (a ≤ k)) := by
  unfold PLine.join
  rw [fil_last hk]
  by_cases h1 : a ≤ k
  · have hbad : ¬ (((A.drop a).take n).any fun it => !rightI it) = true := by
      intro h
      rw [List.any_eq_true] at h
      obtain ⟨y, hy, h2⟩ := h
      rw [hr y (List.mem_of_mem_drop (List.mem_of_mem_take hy))] at h2
      simp at h2
    rw [if_neg (show ¬ ((a : Int) < 0 ∨ (k : Int) < (a : Int) ∨ (((A.drop a).take n).any fun it => !rightI it) = true) from fun h => by
      rcases h with h | h | h
      · omega
      · omega
      · exact hbad h)]
    rw [if_neg (show ¬ ((fil A k).base ≤ (a : Int) ∧ (fil A k).tm a ≠ t) from fun h => h.2 (by rw [fil_tm hk h1, ht]))]
    rw [fil_diff hk hr (k - a) a n (by omega) hn, decide_eq_true h1]
    by_cases h2 : n ≤ k - a
    · rw [if_pos h2]
      exact ⟨0, k, hk, rfl⟩
    · rw [if_neg h2]
      refine ⟨(k : Int) + 1, a + n, hn, ?_⟩
      have hl : (((A.drop k).take (a + n - k)).length : Int) = (a : Int) + n - k := by
        rw [List.length_take, List.length_drop]; omega
      show (if fitsB (fil A k) ((k : Int) + 1 - 0 - 1 + ((A.drop k).take (a + n - k)).length) = true then ((⟨0, 0, (A.take k).take ((k : Int) + 1 - 0 - 1).toNat ++ (A.drop k).take (a + n - k)⟩ : PLine), (k : Int) + 1, true) else (fil A k, 0, false)) = _
      rw [if_pos (by rw [hl]; simp [fitsB, fil]; omega)]
      rw [show ((k : Int) + 1 - 0 - 1).toNat = k by omega, List.take_take, Nat.min_self]
      have e : A.take k ++ (A.drop k).take (a + n - k) = A.take (a + n) := by
        rw [show a + n = k + (a + n - k) by omega, List.take_add]
        congr 2
        omega
      rw [e]; rfl
  · rw [if_pos (.inr (.inl (by omega))), decide_eq_false h1]
    exact ⟨0, k, hk, rfl⟩

/-- the first i items of a line of k items -/
theorem fil_from {A : List PItem} {k i : Nat} (hk : k ≤ A.length) (h0 : 0 < i) (hi : i ≤ k) : (fil A k).from_ 1 i = A.take i := by
  unfold PLine.from_
  rw [fil_last hk, if_neg (show ¬ ((1 : Int) ≤ (fil A k).base ∨ (k : Int) < 1 ∨ (i : Int) < 1) by show ¬ ((1 : Int) ≤ 0 ∨ _); omega)]
  show ((A.take k).drop ((1 : Int) - 0 - 1).toNat).take (i : Int).toNat = _
  rw [show ((1 : Int) - 0 - 1).toNat = 0 by omega, List.drop_zero, Int.toNat_natCast, List.take_take, Nat.min_eq_left hi]
end Go.Proofs.Ytogcnfhmcpkdcaa
