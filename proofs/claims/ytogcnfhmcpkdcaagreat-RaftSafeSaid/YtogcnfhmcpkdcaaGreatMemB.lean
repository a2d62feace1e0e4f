/-
  Small facts on lists and numbers. No program in sight.
  Words on memory for the proofs of this seat: a slice that reads as a list of cells below a block, what keeps it, and small lemmas. No program in sight.
-/
import Derived.Below
import Derived.WalkKit
import Derived.WalkLawsBesides
import Derived.Lib.Hide
import Derived.Sort.OwnSortedInts
namespace Go.Proofs.YtogcnfhmcpkdcaaGreat
theorem snocInd {α : Type} {P : List α → Prop} (h0 : P []) (h1 : ∀ l x, P l → P (l ++ [x])) (l : List α) : P l := by
 have h : ∀ n (l : List α), l.length = n → P l := by
  intro n
  induction n with
  | zero => intro l hl; rw [List.eq_nil_of_length_eq_zero hl]; exact h0
  | succ n ih =>
   intro l hl;rcases List.eq_nil_or_concat l with rfl | ⟨m, x, rfl⟩
   ·exact h0
   ·simp at hl ⊢;exact h1 m x (ih m hl)
 exact h l.length l rfl
end Go.Proofs.YtogcnfhmcpkdcaaGreat
namespace Go.Proofs.YtogcnfhmcpkdcaaGreat
open Go.RowKit
theorem Hh {p : Prop} (h : p) : RowKit.Hid p := h
theorem ret_int {k : IntKind} {a b : Int} (h : a = b) : Ending.returned (.int k a) = .returned (.int k b) := by rw [h]
theorem ret_bool {a b : Bool} (h : a = b) : Ending.returned (.bool a) = .returned (.bool b) := by rw [h]
structure SlAt (w : World) (B size : Nat) (a : Option Addr) (n c : Nat) (xs : List Value) : Prop where
 hlen : xs.length = n * size
 hle : n ≤ c
 hmax : c ≤ maxLen
 hnil : a = none → c = 0
 hat : 0 < xs.length → ∃ b o, a = some ⟨b, o, none⟩ ∧ b < B ∧ ∀ i, i < xs.length → w.cell? ⟨b, o + i, none⟩ = xs[i]?
theorem SlAt.mono {w : World} {B B' size : Nat} {a : Option Addr} {n c : Nat} {xs : List Value} (h : SlAt w B size a n c xs) (hB : B ≤ B') : SlAt w B' size a n c xs :=
 ⟨h.hlen, h.hle, h.hmax, h.hnil, fun hp => let ⟨b, o, e, hb, hc⟩ := h.hat hp; ⟨b, o, e, Nat.lt_of_lt_of_le hb hB, hc⟩⟩
theorem SlAt.below {w w' : World} {B B' size : Nat} {a : Option Addr} {n c : Nat} {xs : List Value} (h : SlAt w B size a n c xs) (hb : Below B' w w') (hB : B ≤ B') : SlAt w' B size a n c xs :=
 ⟨h.hlen, h.hle, h.hmax, h.hnil, fun hp => let ⟨b, o, e, hl, hc⟩ := h.hat hp; ⟨b, o, e, hl, fun i hi => (hb.cell (p := ⟨b, o + i, none⟩) (Nat.lt_of_lt_of_le hl hB)).trans (hc i hi)⟩⟩
theorem SlAt.ofOwns {w : World} {base e size n : Nat} {v : Value} {xs : List Value} (h : w.ownsRow base e size v n xs) : ∃ a c, v = .slice a n c ∧ SlAt w w.heap.size size a n c xs := by
 rcases h.2 with ⟨rfl, rfl⟩ | ⟨g, cap, cur, rfl, hb, hg, hn, hm, hs, ht⟩
 ·exact ⟨none, 0, rfl, by simpa using h.1, Nat.le_refl _, by simp [maxLen], fun _ => rfl, fun hp => by have := h.1; simp at this; simp [this] at hp⟩
 ·refine ⟨_, cap, rfl, h.1, hn, hm, fun e => by simp at e, fun hp => ⟨g, 0, rfl, (Array.getElem?_eq_some_iff.1 hg).1, fun i hi => ?_⟩⟩;have hi' : i < n * size := by rw [← h.1]; exact hi
  rw [Nat.zero_add];simp only [World.cell?, hg];rw [← ht, List.getElem?_take_of_lt hi']
  simp
theorem below_grown {w w' : World} {g B : Nat} (h : w.grownBy w' (some g)) (hB : B ≤ g) (hs : B ≤ w.heap.size) : Below B w w' :=
 (Below.refl B w).grown h hs (fun k e => by cases e; exact hB)
end Go.Proofs.YtogcnfhmcpkdcaaGreat
