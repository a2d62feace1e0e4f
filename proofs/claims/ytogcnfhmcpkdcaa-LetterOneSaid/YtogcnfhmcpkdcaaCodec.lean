/-
  What is written is read as it was, and what is read has just the bytes that would be written. No program in sight.
-/
import Derived.Test.YtogcnfhmcpkdcaaNumLaw
namespace Go.Proofs.Ytogcnfhmcpkdcaa
set_option linter.unusedVariables false

theorem be_le_rev (n : Nat) : be (le n).reverse = n := by
  induction n using Nat.strongRecOn with
  | ind n ih =>
    by_cases h0 : n = 0
    · subst h0; rfl
    · rw [le_pos (by omega), List.reverse_cons, be_snoc', ih (n / 256) (by omega)]
      have : (UInt8.ofNat n).toNat = n % 256 := by simp
      rw [this]; omega

theorem le_last_ne (n : Nat) (h : 0 < n) : (le n).reverse.getD 0 0 ≠ 0 := by
  induction n using Nat.strongRecOn with
  | ind n ih =>
    rw [le_pos h, List.reverse_cons]
    by_cases h0 : n / 256 = 0
    · rw [h0, le_zero]
      intro e
      have e2 : UInt8.ofNat n = 0 := by simpa using e
      have := congrArg UInt8.toNat e2
      simp at this
      omega
    · have h1 := ih (n / 256) (by omega) (by omega)
      have h2 : 0 < (le (n / 256)).reverse.length := by rw [List.length_reverse, le_pos (by omega)]; simp
      have h3 : ((le (n / 256)).reverse ++ [UInt8.ofNat n]).getD 0 0 = (le (n / 256)).reverse.getD 0 0 := by
        simp only [List.getD, List.getElem?_append_left h2]
      rw [h3]; exact h1

theorem le_nil {n : Nat} (h : (le n).length = 0) : n = 0 := by
  by_cases h0 : n = 0
  · exact h0
  · rw [le_pos (by omega)] at h; simp at h

theorem le_len' (k : Nat) : ∀ n, n < 256 ^ k → (le n).length ≤ k := by
  induction k with
  | zero => intro n h; have : n = 0 := by simpa using h
            subst this; simp [le_zero]
  | succ k ih =>
    intro n h
    by_cases h0 : n = 0
    · subst h0; simp [le_zero]
    · rw [le_pos (by omega)]
      have := ih (n / 256) (by rw [Nat.pow_succ] at h; omega)
      simp; omega

theorem getNum_put (most n : Nat) (r : List UInt8) (h64 : n < 18446744073709551616) (hm : n ≤ most) : getNum most (putNum n ++ r) = .ok n r := by
  have h8 : (le n).length ≤ 8 := le_len' 8 n (by omega)
  have hk : (UInt8.ofNat (le n).length).toNat = (le n).length := by simp; omega
  simp only [putNum, List.cons_append, getNum, hk]
  have ht : ((le n).reverse ++ r).take (le n).length = (le n).reverse := by
    rw [← List.length_reverse, List.take_left]
  have hd : ((le n).reverse ++ r).drop (le n).length = r := by
    rw [← List.length_reverse, List.drop_left]
  rw [if_neg (by omega), if_neg (by simp), ht, hd, be_le_rev, if_neg, if_neg (by omega)]
  rintro ⟨h1, h2⟩
  have h0 : 0 < n := by
    rcases Nat.eq_zero_or_pos n with h | h
    · subst h; simp [le_zero] at h1
    · exact h
  have h3 : 0 < (le n).reverse.length := by simpa using h1
  have h4 : ((le n).reverse ++ r).getD 0 0 = (le n).reverse.getD 0 0 := by simp only [List.getD, List.getElem?_append_left h3]
  rw [h4] at h2
  exact le_last_ne n h0 h2

/-- the bytes that were read, and no others -/
theorem get_put {most v : Nat} {l r : List UInt8} (h : getNum most l = .ok v r) : l = putNum v ++ r := by
  cases l with
  | nil => simp [getNum] at h
  | cons k t =>
    have hk := k.toNat_lt
    simp only [getNum] at h
    split at h
    · cases h
    split at h
    · cases h
    split at h
    · cases h
    split at h
    · cases h
    rename_i h1 h2 h3 h4
    injection h with h5 h6
    have hlen : (t.take k.toNat).length = k.toNat := by simp; omega
    have hr : le (be (t.take k.toNat)) = (t.take k.toNat).reverse := le_be _ (fun hn e => h3 ⟨by
      rcases Nat.eq_zero_or_pos k.toNat with h | h
      · rw [h] at hn; simp at hn
      · exact h, by
      have h0 : 0 < k.toNat := by
        rcases Nat.eq_zero_or_pos k.toNat with h | h
        · rw [h] at hn; simp at hn
        · exact h
      have h7 : (t.take k.toNat).getD 0 0 = t.getD 0 0 := by simp [List.getD, List.getElem?_take_of_lt h0]
      rw [← h7]; exact e⟩)
    rw [← h5, putNum, hr, ← h6, List.length_reverse, hlen]
    simp

theorem getNum_most {most v : Nat} {l r : List UInt8} (h : getNum most l = .ok v r) : v ≤ most := by
  cases l with
  | nil => simp [getNum] at h
  | cons k t =>
    simp only [getNum] at h
    repeat' split at h
    all_goals first | (cases h; omega) | (cases h)

theorem getNum_errs {most : Nat} {l : List UInt8} {x : Int} (h : getNum most l = .err x) : x = 2 ∨ x = 3 ∨ x = 5 := by
  cases l with
  | nil => simp [getNum] at h; omega
  | cons k t =>
    simp only [getNum] at h
    repeat' split at h
    all_goals first | (cases h; simp) | (cases h)

theorem getTake_put (d r : List UInt8) (n : Nat) (h : d.length = n) : getTake n (d ++ r) = .ok d r := by
  subst h
  simp [getTake]

theorem take_put {n : Nat} {l d r : List UInt8} (h : getTake n l = .ok d r) : l = d ++ r ∧ d.length = n := by
  simp only [getTake] at h
  split at h
  · cases h
  · injection h with h1 h2
    subst h1 h2
    rename_i hl
    exact ⟨(List.take_append_drop _ _).symm, by simp; omega⟩

theorem getTake_errs {n : Nat} {l : List UInt8} {x : Int} (h : getTake n l = .err x) : x = 2 := by
  simp only [getTake] at h
  split at h
  · cases h; rfl
  · cases h

theorem getText_put (most : Nat) (t r : List UInt8) (h64 : t.length < 18446744073709551616) (hm : t.length ≤ most) : getText most (putText t ++ r) = .ok t r := by
  simp only [getText, putText, List.append_assoc, getNum_put most t.length (t ++ r) h64 hm]
  exact getTake_put t r _ rfl

theorem text_put {most : Nat} {l t r : List UInt8} (h : getText most l = .ok t r) : l = putText t ++ r ∧ t.length ≤ most := by
  simp only [getText] at h
  cases hg : getNum most l with
  | err x => rw [hg] at h; cases h
  | ok n r' =>
    rw [hg] at h
    obtain ⟨h1, h2⟩ := take_put h
    have h3 := get_put hg
    have h4 := getNum_most hg
    subst h2
    exact ⟨by rw [h3, h1, putText, List.append_assoc], h4⟩

theorem getText_errs {most : Nat} {l : List UInt8} {x : Int} (h : getText most l = .err x) : x = 2 ∨ x = 3 ∨ x = 5 := by
  simp only [getText] at h
  cases hg : getNum most l with
  | err y => rw [hg] at h; cases h; exact getNum_errs hg
  | ok n r' => rw [hg] at h; exact .inl (getTake_errs h)

/-- one reading behind another one -/
def Res.bind {α β : Type} (r : Res α) (f : α → List UInt8 → Res β) : Res β :=
  match r with
  | .err x => .err x
  | .ok v rest => f v rest

@[simp] theorem Res.bind_err {α β : Type} (x : Int) (f : α → List UInt8 → Res β) : (Res.err x : Res α).bind f = .err x := rfl
@[simp] theorem Res.bind_ok {α β : Type} (v : α) (r : List UInt8) (f : α → List UInt8 → Res β) : (Res.ok v r).bind f = f v r := rfl

/-- the error's number of a whole reading: nothing may be left -/
def Res.code {α : Type} : Res α → Int
  | .err x => x
  | .ok _ r => if r = [] then 0 else 3

/-- no error is 0 -/
def Res.sane {α : Type} (r : Res α) : Prop := ∀ x, r = .err x → x ≠ 0
theorem sane_num (most : Nat) (l : List UInt8) : (getNum most l).sane := fun x h => by have := getNum_errs h; omega
theorem sane_take (n : Nat) (l : List UInt8) : (getTake n l).sane := fun x h => by have := getTake_errs h; omega
theorem sane_text (most : Nat) (l : List UInt8) : (getText most l).sane := fun x h => by have := getText_errs h; omega
theorem Res.sane_bind {α β : Type} {r : Res α} {f : α → List UInt8 → Res β} (h : r.sane) (hf : ∀ v rest, (f v rest).sane) : (r.bind f).sane := by
  intro x hx
  cases r with
  | err y => simp at hx; subst hx; exact h y rfl
  | ok v rest => exact hf v rest x hx
theorem sane_ok {α : Type} (v : α) (r : List UInt8) : (Res.ok v r).sane := fun x h => by cases h
end Go.Proofs.Ytogcnfhmcpkdcaa
