/-
  Contracts of Pen.Bytes and of the reading functions of layer 4's statements.
-/
import Derived.Test.YtogcnfhmcpkdcaaField3
import Derived.Test.YtogcnfhmcpkdcaaPenLaw
namespace Go.Proofs.Ytogcnfhmcpkdcaa
open Go.RowKit
set_option linter.unusedVariables false

theorem penBytes (q : Nat) (v : Value) (l : List UInt8) (hl : l.length ≤ 1000000000) (w : World) (h : PenAt 5 w q v l) :
    Calls Try.prog 31 #[.pointer (some ⟨q, 0, none⟩)] w fun e w' => ∃ a c, e = .returned (.slice a l.length c) ∧ BsAt w' w'.heap.size a l.length c l ∧ Below w.heap.size w w' ∧ w'.ownsRow w.heap.size 5 1 (.slice a l.length c) l.length (l.map bv) := by
  obtain ⟨a0, c0, rfl, hbs⟩ := bsAt_of_owns h.own (by omega)
  have hc := h.cell
  go_enter Try.func31, Try.ntmps31
  go_wp2_with fail
  refine (cloneB l a0 l.length c0 _ hbs).mono ?_
  rintro e w1 ⟨a, c, rfl, h1, h2, h3⟩
  go_wp2
  go_ret
  exact ⟨a, c, rfl, h1, h2, h3⟩

/-- laying a value into a cell that holds no byte leaves all bytes, and an eye elsewhere -/
theorem BsAt.setOther {w : World} {B : Nat} {a : Option Addr} {n c : Nat} {l : List UInt8} (h : BsAt w B a n c l) {p : Addr} {u : Value} (hp : w.cell? p = some u) (hu : ∀ c : Int, u ≠ .int .u8 c) (v : Value) : BsAt (w.setCell p v) B a n c l :=
  ⟨h.hlen, h.hle, h.hmax, h.hnil, h.hbig, fun hn => let ⟨b, o, e, hl, hc⟩ := h.hat hn; ⟨b, o, e, hl, fun i hi => by
    have h1 := hc i hi
    rw [← h1]
    have e2 : p ≠ ⟨b, o + i, none⟩ := fun e2 => by
      rw [← e2, hp] at h1
      exact hu _ (Option.some.inj h1)
    exact World.cell?_setCell_other _ _ _ _ e2⟩⟩

theorem EyeAt.setOther {w : World} {q p o : Nat} {l : List UInt8} (h : EyeAt w q l) (hpq : p ≠ q) {u : Value} (hp : w.cell? ⟨p, o, none⟩ = some u) (hu : ∀ c : Int, u ≠ .int .u8 c) (v : Value) : EyeAt (w.setCell ⟨p, o, none⟩ v) q l := by
  obtain ⟨hq, a, n, c, h1, h2, h3⟩ := h
  refine ⟨by simpa using hq, a, n, c, ?_, by simpa using h2, by simpa using h3.setOther hp hu v⟩
  rw [World.cell?_setCell_other _ _ _ _ (fun e => by injection e with e1; exact hpq e1)]
  exact h1

/-- the errors that a number's reading tells are none of them 0 -/
theorem getNum_err {most : Nat} {l : List UInt8} {x : Int} (h : getNum most l = .err x) : x ≠ 0 := by
  cases l with
  | nil => simp [getNum] at h; omega
  | cons k t =>
    simp only [getNum] at h
    repeat' split at h
    all_goals first | (cases h; decide) | (cases h)

set_option maxHeartbeats 1000000 in
theorem oneRead (q p : Nat) (n0 : Int) (l : List UInt8) (w : World) (h : EyeAt w q l) (hp : p < w.heap.size) (hpq : p ≠ q) (hc : w.cell? ⟨p, 0, none⟩ = some (.int .u64 n0)) (hz : w.frozen? ⟨p, 0, none⟩ = false) :
    Calls Try.prog 28 #[.pointer (some ⟨p, 0, none⟩), .pointer (some ⟨q, 0, none⟩)] w fun e w' => w.heap.size ≤ w'.heap.size ∧ (∀ k, k < w.heap.size → k ≠ q → k ≠ p → w'.heap[k]? = w.heap[k]?) ∧ w'.os = w.os ∧ w'.tape = w.tape ∧ w'.output = w.output ∧
      ((∃ x, getNum 18446744073709551615 l = .err x ∧ e = broke x) ∨ (∃ v r, getNum 18446744073709551615 l = .ok v r ∧ e = .returned (.tuple #[]) ∧ EyeAt w' q r ∧ w'.cell? ⟨p, 0, none⟩ = some (.int .u64 v))) := by
  go_enter Try.func28, Try.ntmps28
  go_wp2_with fail
  refine (eyeNum q 18446744073709551615 _ _ h).mono ?_
  rintro e w1 ⟨hb, hr⟩
  cases hg : getNum 18446744073709551615 l with
  | err x =>
    rw [hg] at hr
    obtain rfl : e = broke x := hr
    have HG := Lib.hid hg
    clear hg
    go_wp2
    exact ⟨rfl, hb.size, fun k hk hq _ => hb.block k hk hq, hb.os, hb.tape, hb.output, .inl ⟨x, HG.out, rfl⟩⟩
  | ok v r =>
    rw [hg] at hr
    obtain ⟨rfl, heye⟩ := hr
    have hc1 : w1.cell? ⟨p, 0, none⟩ = some (.int .u64 n0) := (World.cell?_of_block (a := ⟨p, 0, none⟩) (hb.block p hp hpq)).trans hc
    have hz1 : w1.frozen? ⟨p, 0, none⟩ = false := (World.frozen?_of_block (a := ⟨p, 0, none⟩) (hb.block p hp hpq)).trans hz
    have HG := Lib.hid hg
    have HE := Lib.hid heye
    have HB := Lib.hid hb
    clear hg heye hb h hc hz
    go_wp2
    go_end0
    have hb := HB.out
    refine ⟨by simpa using hb.size, fun k hk hq hkp => (Below.heap_setCell _ _ _ k hkp).trans (hb.block k hk hq), hb.os, hb.tape, hb.output, .inr ⟨v, r, HG.out, rfl, ?_, World.cell?_setCell_same _ _ _ hc1⟩⟩
    exact HE.out.setOther hpq hc1 (fun c e => by cases e) _
end Go.Proofs.Ytogcnfhmcpkdcaa
