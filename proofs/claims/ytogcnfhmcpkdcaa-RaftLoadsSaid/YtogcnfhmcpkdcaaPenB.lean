/-
  The pen's contracts with the frame 'all below the pen is as it was', and what it holds by a name of its own.
-/
import Derived.Test.YtogcnfhmcpkdcaaPen3
import Derived.Test.YtogcnfhmcpkdcaaLaw4a
namespace Go.Proofs.Ytogcnfhmcpkdcaa
open Go.RowKit
set_option linter.unusedVariables false

/-- what a writing leaves behind: the pen with more bytes -/
def Wrote (q : Nat) (w w' : World) (l m : List UInt8) (k : Nat) : Prop := ∃ v' l', l' = l ++ m ∧ l'.length ≤ l.length + k ∧ PenAt 5 w' q v' l' ∧ Below q w w'

theorem putNum_le9 {n : Nat} (h : n < 18446744073709551616) : (putNum n).length ≤ 9 := by have := le_len8 h; simp [putNum]; omega

theorem penNumB (q n : Nat) (hn : n < 18446744073709551616) (v : Value) (l : List UInt8) (hl : l.length ≤ 1000000) (w : World) (h : PenAt 5 w q v l) :
    Calls Try.prog 29 #[.pointer (some ⟨q, 0, none⟩), .int .u64 n] w fun e w' => e = .returned (.tuple #[]) ∧ Wrote q w w' l (putNum n) 9 :=
  (penNum q n hn v l hl w h).mono fun e w' ⟨he, v', hp, ht⟩ => ⟨he, v', _, rfl, by rw [List.length_append]; have := putNum_le9 hn; omega, hp, ht.below h (Nat.le_refl _)⟩

theorem penTextB (q : Nat) (v : Value) (l : List UInt8) (hl : l.length ≤ 1000000) (m : List UInt8) (am : Option Addr) (n c : Nat) (hn : n ≤ 1000000) (w : World) (hm : BsAt w q am n c m) (h : PenAt 5 w q v l) :
    Calls Try.prog 45 #[.pointer (some ⟨q, 0, none⟩), .slice am n c] w fun e w' => e = .returned (.tuple #[]) ∧ Wrote q w w' l (putText m) (9 + n) :=
  (penText q v l hl m am n c hn w hm h).mono fun e w' ⟨he, v', hp, ht⟩ => ⟨he, v', _, rfl, by
    rw [List.length_append, putText, List.length_append]
    have h1 := hm.hlen
    have := putNum_le9 (show m.length < 18446744073709551616 by omega)
    omega, hp, ht.below h (Nat.le_refl _)⟩

theorem penIdB (q : Nat) (v : Value) (l : List UInt8) (hl : l.length ≤ 1000000) (d : List UInt8) (hd : d.length = 32) (w : World) (h : PenAt 5 w q v l) :
    Calls Try.prog 46 #[.pointer (some ⟨q, 0, none⟩), .agg (d.map bv).toArray] w fun e w' => e = .returned (.tuple #[]) ∧ Wrote q w w' l d 32 :=
  (penId q v l hl d hd w h).mono fun e w' ⟨he, v', hp, ht⟩ => ⟨he, v', _, rfl, by rw [List.length_append]; omega, hp, ht.below h (Nat.le_refl _)⟩

theorem PenAt.new (T : TypeId) (w : World) : PenAt 5 (w.alloc (.cells #[.slice none 0 0] T)) w.heap.size (.slice none 0 0) [] :=
  ⟨by simp, by simp [go_sem], by simp [go_sem], ⟨rfl, .inl ⟨rfl, rfl⟩⟩⟩
end Go.Proofs.Ytogcnfhmcpkdcaa
