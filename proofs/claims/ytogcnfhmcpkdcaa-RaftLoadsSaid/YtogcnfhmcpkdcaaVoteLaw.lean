/-
  Plain law: the index at its place in the sorted list is the greatest that enough have. No program in sight.
-/
import Derived.Test.YtogcnfhmcpkdcaaBase
namespace Go.Proofs.Ytogcnfhmcpkdcaa

def sortedI (zs : List Int) : List Int := zs.mergeSort fun x y => decide (x ≤ y)
def agreedOk (zs : List Int) : Bool := decide (1 ≤ zs.length) && decide (zs.length ≤ 7)
def agreed (zs : List Int) : Int := if agreedOk zs = true then (sortedI zs).getD (zs.length - (zs.length / 2 + 1)) 0 else 0

/-- how many are at least x -/
def cntGe (zs : List Int) (x : Int) : Nat := (zs.filter fun y => decide (x ≤ y)).length

def bestStep (zs : List Int) (acc : Int × Bool) (x : Int) : Int × Bool :=
  if zs.length / 2 + 1 ≤ cntGe zs x ∧ (acc.2 = false ∨ acc.1 < x) then (x, true) else acc
def bestOf (zs : List Int) (l : List Int) : Int × Bool := l.foldl (bestStep zs) (0, false)

theorem bestOf_snoc (zs l : List Int) (x : Int) : bestOf zs (l ++ [x]) = bestStep zs (bestOf zs l) x := by simp [bestOf]

theorem sortedI_length (zs : List Int) : (sortedI zs).length = zs.length := by simp [sortedI]
theorem sortedI_perm (zs : List Int) : (sortedI zs).Perm zs := List.mergeSort_perm _ _
theorem sortedI_sorted (zs : List Int) : (sortedI zs).Pairwise (· ≤ ·) := by
  have h := List.pairwise_mergeSort (le := fun x y : Int => decide (x ≤ y)) (by intro a b c h1 h2; simp at *; omega) (by intro a b; simp; omega) zs
  exact h.imp (by intro a b h; simpa using h)

theorem cntGe_perm {l m : List Int} (h : l.Perm m) (x : Int) : cntGe l x = cntGe m x := (h.filter _).length_eq

theorem cntGe_append (l m : List Int) (x : Int) : cntGe (l ++ m) x = cntGe l x + cntGe m x := by simp [cntGe]
theorem cntGe_le (l : List Int) (x : Int) : cntGe l x ≤ l.length := List.length_filter_le _ _
theorem cntGe_all (l : List Int) (x : Int) (h : ∀ y ∈ l, x ≤ y) : cntGe l x = l.length := by
  unfold cntGe; rw [List.filter_eq_self.2 (by intro y hy; simpa using h y hy)]
theorem cntGe_none (l : List Int) (x : Int) (h : ∀ y ∈ l, y < x) : cntGe l x = 0 := by
  unfold cntGe
  rw [List.filter_eq_nil_iff.2 (by intro y hy; have := h y hy; simp; omega)]; rfl

theorem bestOf_inv (zs : List Int) : ∀ l : List Int, ((bestOf zs l).2 = true → (bestOf zs l).1 ∈ l ∧ zs.length / 2 + 1 ≤ cntGe zs (bestOf zs l).1) ∧
    (∀ x ∈ l, zs.length / 2 + 1 ≤ cntGe zs x → (bestOf zs l).2 = true ∧ x ≤ (bestOf zs l).1) ∧ ((bestOf zs l).2 = false → (bestOf zs l).1 = 0) := by
  intro l
  induction l using snocInd with
  | h0 => simp [bestOf]
  | h1 l x ih =>
    obtain ⟨h1, h2, h3⟩ := ih
    rw [bestOf_snoc]
    unfold bestStep
    split
    · rename_i hc
      refine ⟨fun _ => ⟨by simp, hc.1⟩, ?_, fun h => by simp at h⟩
      intro y hy hcy
      rcases List.mem_append.1 hy with hy | hy
      · obtain ⟨hf, hle⟩ := h2 y hy hcy
        rcases hc.2 with h | h
        · rw [hf] at h; cases h
        · exact ⟨rfl, by show y ≤ x; omega⟩
      · have : y = x := by simpa using hy
        subst this; exact ⟨rfl, Int.le_refl _⟩
    · rename_i hc
      refine ⟨fun h => ⟨List.mem_append_left _ (h1 h).1, (h1 h).2⟩, ?_, h3⟩
      intro y hy hcy
      rcases List.mem_append.1 hy with hy | hy
      · exact h2 y hy hcy
      · have : y = x := by simpa using hy
        subst this
        cases hb : (bestOf zs l).2
        · exact absurd ⟨hcy, .inl hb⟩ hc
        · refine ⟨rfl, ?_⟩
          rcases (show (bestOf zs l).1 < y ∨ y ≤ (bestOf zs l).1 by omega) with h | h
          · exact absurd ⟨hcy, .inr h⟩ hc
          · exact h

/-- what is agreed is the greatest index that enough have -/
theorem bestOf_agreed (zs : List Int) (h1 : 1 ≤ zs.length) (h7 : zs.length ≤ 7) : bestOf zs zs = (agreed zs, true) := by
  have hok : agreedOk zs = true := by simp [agreedOk, h1, h7]
  have hag : agreed zs = (sortedI zs).getD (zs.length - (zs.length / 2 + 1)) 0 := by simp [agreed, hok]
  obtain ⟨k, hk⟩ : ∃ k, k = zs.length - (zs.length / 2 + 1) := ⟨_, rfl⟩
  have hkl : k < (sortedI zs).length := by rw [sortedI_length]; omega
  rw [← hk] at hag
  have hr : agreed zs = (sortedI zs)[k] := by rw [hag]; simp [List.getD, List.getElem?_eq_getElem hkl]
  have hsort := sortedI_sorted zs
  have hperm := sortedI_perm zs
  have hlen := sortedI_length zs
  generalize sortedI zs = s at *
  have hge : ∀ i j (hi : i < s.length) (hj : j < s.length), i ≤ j → s[i] ≤ s[j] := by
    intro i j hi hj hij
    rcases Nat.lt_or_eq_of_le hij with h | h
    · exact (List.pairwise_iff_getElem.1 hsort) i j hi hj h
    · subst h; exact Int.le_refl _
  have hc1 : zs.length / 2 + 1 ≤ cntGe zs (agreed zs) := by
    rw [← cntGe_perm hperm, ← List.take_append_drop k s, cntGe_append, cntGe_all (s.drop k)]
    · simp; omega
    · intro y hy
      obtain ⟨i, hi, rfl⟩ := List.getElem_of_mem hy
      rw [hr, List.getElem_drop]
      exact hge _ _ _ _ (by omega)
  have hc2 : ∀ x, agreed zs < x → cntGe zs x < zs.length / 2 + 1 := by
    intro x hx
    rw [← cntGe_perm hperm, ← List.take_append_drop (k + 1) s, cntGe_append, cntGe_none (s.take (k + 1))]
    · have := cntGe_le (s.drop (k + 1)) x
      simp at this; omega
    · intro y hy
      obtain ⟨i, hi, rfl⟩ := List.getElem_of_mem hy
      rw [List.getElem_take]
      have hi' : i < k + 1 := by simp at hi; omega
      have := hge i k (by omega) hkl (by omega)
      rw [hr] at hx; omega
  have hmem : agreed zs ∈ zs := by rw [hr]; exact hperm.subset (List.getElem_mem hkl)
  obtain ⟨i1, i2, _⟩ := bestOf_inv zs zs
  obtain ⟨hf, hle⟩ := i2 _ hmem hc1
  have hb := (i1 hf).2
  have : (bestOf zs zs).1 = agreed zs := by
    rcases (show agreed zs < (bestOf zs zs).1 ∨ (bestOf zs zs).1 ≤ agreed zs by omega) with h | h
    · have := hc2 _ h; omega
    · omega
  exact Prod.ext this hf

end Go.Proofs.Ytogcnfhmcpkdcaa
