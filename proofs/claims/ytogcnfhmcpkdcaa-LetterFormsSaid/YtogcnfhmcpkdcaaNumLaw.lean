/-
  A number that is read to the end has just the bytes from which it was read. No program in sight.
-/
import Derived.Test.YtogcnfhmcpkdcaaFieldLaw
namespace Go.Proofs.Ytogcnfhmcpkdcaa

theorem be_snoc' (l : List UInt8) (c : UInt8) : be (l ++ [c]) = be l * 256 + c.toNat := by simp [be]

theorem be_pos : ∀ (l : List UInt8), l ≠ [] → l.getD 0 0 ≠ 0 → 0 < be l := by
  intro l
  induction l using snocInd with
  | h0 => intro h; exact absurd rfl h
  | h1 l c ih =>
    intro _ h
    rw [be_snoc']
    by_cases hl : l = []
    · subst hl
      have hc : c ≠ 0 := by simpa using h
      have : c.toNat ≠ 0 := fun e => hc (UInt8.toNat_inj.1 e)
      omega
    · have h2 : l.getD 0 0 ≠ 0 := by
        cases l with
        | nil => exact absurd rfl hl
        | cons x xs => simpa using h
      have := ih hl h2
      omega

theorem le_be : ∀ (l : List UInt8), (l ≠ [] → l.getD 0 0 ≠ 0) → le (be l) = l.reverse := by
  intro l
  induction l using snocInd with
  | h0 => intro _; rfl
  | h1 l c ih =>
    intro h
    have hc := c.toNat_lt
    have hp := be_pos (l ++ [c]) (by simp) (h (by simp))
    rw [le_pos hp, be_snoc']
    have e1 : (be l * 256 + c.toNat) / 256 = be l := by omega
    have e2 : UInt8.ofNat (be l * 256 + c.toNat) = c := by
      apply UInt8.toNat_inj.1
      simp
    rw [e1, e2, ih ?_]
    · simp
    · intro hl
      have := h (by simp)
      cases l with
      | nil => exact absurd rfl hl
      | cons x xs => simpa using this

theorem putNum_of_get {most v : Nat} {l : List UInt8} (h : getNum most l = .ok v []) : putNum v = l := by
  cases l with
  | nil => simp [getNum] at h
  | cons k r =>
    have hk := k.toNat_lt
    simp only [getNum] at h
    split at h
    · cases h
    split at h
    · cases h
    split at h
    · cases h
    split at h
    · cases h
    rename_i h1 h2 h3 h4
    injection h with h5 h6
    have hlen : r.length = k.toNat := by
      have := congrArg List.length h6
      simp at this
      omega
    have ht : r.take k.toNat = r := List.take_of_length_le (by omega)
    rw [ht] at h5
    subst h5
    have hr : le (be r) = r.reverse := le_be r (fun hn e => h3 ⟨by
      cases r with
      | nil => exact absurd rfl hn
      | cons x xs => simp at hlen; omega, e⟩)
    simp only [putNum, hr]
    simp [hlen]
end Go.Proofs.Ytogcnfhmcpkdcaa
