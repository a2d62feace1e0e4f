/-
  Small facts on lists and numbers. No program in sight.
-/
import Derived.Below
namespace Go.Proofs.YtogcnfhmcpkdcaaGreat

/-- induction on a list from behind -/
theorem snocInd {α : Type} {P : List α → Prop} (h0 : P []) (h1 : ∀ l x, P l → P (l ++ [x])) (l : List α) : P l := by
  have h : ∀ n (l : List α), l.length = n → P l := by
    intro n
    induction n with
    | zero => intro l hl; rw [List.eq_nil_of_length_eq_zero hl]; exact h0
    | succ n ih =>
      intro l hl
      rcases List.eq_nil_or_concat l with rfl | ⟨m, x, rfl⟩
      · exact h0
      · simp at hl ⊢
        exact h1 m x (ih m hl)
  exact h l.length l rfl

end Go.Proofs.YtogcnfhmcpkdcaaGreat
