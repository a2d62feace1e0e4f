/-
  Contracts of Pen.Bytes and of the reading functions of layer 4's statements.
  The pen's contracts with the frame 'all below the pen is as it was', and what it holds by a name of its own.
-/
import Derived.Test.YtogcnfhmcpkdcaaGreatField3
import Derived.Test.YtogcnfhmcpkdcaaGreatPenLaw
import Derived.Test.YtogcnfhmcpkdcaaGreatPenF
namespace Go.Proofs.YtogcnfhmcpkdcaaGreat
open Go.RowKit
set_option linter.unusedVariables false

theorem penBytes (q : Nat) (v : Value) (l : List UInt8) (hl : l.length ≤ 1000000000) (w : World) (h : PenAt 5 w q v l) :
    Calls Tryz.prog 38 #[.pointer (some ⟨q, 0, none⟩)] w fun e w' => ∃ a c, e = .returned (.slice a l.length c) ∧ BsAt w' w'.heap.size a l.length c l ∧ Below w.heap.size w w' ∧ w'.ownsRow w.heap.size 5 1 (.slice a l.length c) l.length (l.map bv) := by
  obtain ⟨a0, c0, rfl, hbs⟩ := bsAt_of_owns h.own (by omega)
  have hc := h.cell
  go_enter Tryz.func38, Tryz.ntmps38
  go_wp2_with fail
  refine (cloneB l a0 l.length c0 _ hbs).mono ?_
  rintro e w1 ⟨a, c, rfl, h1, h2, h3⟩
  go_wp2
  go_ret
  exact ⟨a, c, rfl, h1, h2, h3⟩

/-- laying a value into a cell that holds no byte leaves all bytes, and an eye elsewhere -/
theorem BsAt.setOther {w : World} {B : Nat} {a : Option Addr} {n c : Nat} {l : List UInt8} (h : BsAt w B a n c l) {p : Addr} {u : Value} (hp : w.cell? p = some u) (hu : ∀ c : Int, u ≠ .int .u8 c) (v : Value) : BsAt (w.setCell p v) B a n c l :=
  ⟨h.hlen, h.hle, h.hmax, h.hnil, h.hbig, fun hn => let ⟨b, o, e, hl, hc⟩ := h.hat hn; ⟨b, o, e, hl, fun i hi => by
    have h1 := hc i hi
    rw [← h1]
    have e2 : p ≠ ⟨b, o + i, none⟩ := fun e2 => by
      rw [← e2, hp] at h1
      exact hu _ (Option.some.inj h1)
    exact World.cell?_setCell_other _ _ _ _ e2⟩⟩

theorem EyeAt.setOther {w : World} {q p o : Nat} {l : List UInt8} (h : EyeAt w q l) (hpq : p ≠ q) {u : Value} (hp : w.cell? ⟨p, o, none⟩ = some u) (hu : ∀ c : Int, u ≠ .int .u8 c) (v : Value) : EyeAt (w.setCell ⟨p, o, none⟩ v) q l := by
  obtain ⟨hq, a, n, c, h1, h2, h3⟩ := h
  refine ⟨by simpa using hq, a, n, c, ?_, by simpa using h2, by simpa using h3.setOther hp hu v⟩
  rw [World.cell?_setCell_other _ _ _ _ (fun e => by injection e with e1; exact hpq e1)]
  exact h1

/-- the errors that a number's reading tells are none of them 0 -/
theorem getNum_err {most : Nat} {l : List UInt8} {x : Int} (h : getNum most l = .err x) : x ≠ 0 := by
  cases l with
  | nil => simp [getNum] at h; omega
  | cons k t =>
    simp only [getNum] at h
    repeat' split at h
    all_goals first | (cases h; decide) | (cases h)

end Go.Proofs.YtogcnfhmcpkdcaaGreat

namespace Go.Proofs.YtogcnfhmcpkdcaaGreat
open Go.RowKit
set_option linter.unusedVariables false

/-- what a writing leaves behind: the pen with more bytes -/
def Wrote (q : Nat) (w w' : World) (l m : List UInt8) (k : Nat) : Prop := ∃ v' l', l' = l ++ m ∧ l'.length ≤ l.length + k ∧ PenAt 5 w' q v' l' ∧ Below q w w'

theorem putNum_le9 {n : Nat} (h : n < 18446744073709551616) : (putNum n).length ≤ 9 := by have := le_len8 h; simp [putNum]; omega

theorem penNumB (q n : Nat) (hn : n < 18446744073709551616) (v : Value) (l : List UInt8) (hl : l.length ≤ 1000000) (w : World) (h : PenAt 5 w q v l) :
    Calls Tryz.prog 35 #[.pointer (some ⟨q, 0, none⟩), .int .u64 n] w fun e w' => e = .returned (.tuple #[]) ∧ Wrote q w w' l (putNum n) 9 :=
  (penNum q n hn v l hl w h).mono fun e w' ⟨he, v', hp, ht⟩ => ⟨he, v', _, rfl, by rw [List.length_append]; have := putNum_le9 hn; omega, hp, ht.below h (Nat.le_refl _)⟩

theorem penTextB (q : Nat) (v : Value) (l : List UInt8) (hl : l.length ≤ 1000000) (m : List UInt8) (am : Option Addr) (n c : Nat) (hn : n ≤ 1000000) (w : World) (hm : BsAt w q am n c m) (h : PenAt 5 w q v l) :
    Calls Tryz.prog 36 #[.pointer (some ⟨q, 0, none⟩), .slice am n c] w fun e w' => e = .returned (.tuple #[]) ∧ Wrote q w w' l (putText m) (9 + n) :=
  (penText q v l hl m am n c hn w hm h).mono fun e w' ⟨he, v', hp, ht⟩ => ⟨he, v', _, rfl, by
    rw [List.length_append, putText, List.length_append]
    have h1 := hm.hlen
    have := putNum_le9 (show m.length < 18446744073709551616 by omega)
    omega, hp, ht.below h (Nat.le_refl _)⟩

theorem PenAt.new (T : TypeId) (w : World) : PenAt 5 (w.alloc (.cells #[.slice none 0 0] T)) w.heap.size (.slice none 0 0) [] :=
  ⟨by simp, by simp [go_sem], by simp [go_sem], ⟨rfl, .inl ⟨rfl, rfl⟩⟩⟩
end Go.Proofs.YtogcnfhmcpkdcaaGreat
