/-
  The document's example of layer 15 (awake) answers true.
-/
import Derived.Test.YtogcnfhmcpkdcaaLetM4
import Derived.Test.YtogcnfhmcpkdcaaLetM1
import Derived.Test.YtogcnfhmcpkdcaaField4
namespace Go.Proofs.Ytogcnfhmcpkdcaa
open Go.RowKit
set_option linter.unusedVariables false
set_option linter.unusedSimpArgs false

theorem LetAt.on {w w' : World} {x : PLet} {ia : Option Addr} {ic : Nat} {ms : List MItem} {ba : Option Addr} {bc : Nat} (h : LetAt w w.heap.size x ia ic ms ba bc) (hb : Below w.heap.size w w') : LetAt w' w'.heap.size x ia ic ms ba bc := (h.below hb (Nat.le_refl _)).mono hb.size
theorem BsAt.on {w w' : World} {a : Option Addr} {n c : Nat} {l : List UInt8} (h : BsAt w w.heap.size a n c l) (hb : Below w.heap.size w w') : BsAt w' w'.heap.size a n c l := (h.below hb (Nat.le_refl _)).mono hb.size
theorem letZero (w : World) : LetAt w w.heap.size zeroL none 0 [] none 0 := ⟨itemsNil _ _, rfl, bsNil9 _ _⟩
theorem bs_new9 (w : World) (l : List UInt8) (hl : l.length ≤ 1000) : BsAt (w.alloc (.cells (l.map bv).toArray 5)) (w.alloc (.cells (l.map bv).toArray 5)).heap.size (some ⟨w.heap.size, 0, none⟩) l.length l.length l := by
  have h9 := slAt_new w (l.map bv) 5 (by simp [maxLen]; omega)
  simp only [List.length_map] at h9
  simp only [World.size_alloc]
  exact bsAt_of_slAt h9 (by omega)

/-- what is read, as one letter -/
def outV (o : Int × Option PLet) : PLet := o.2.getD zeroL
theorem outLet_some {l : List UInt8} {x : Int} {v : PLet} (h : outLet (getLet l) = (x, some v)) : x = 0 ∧ l = putL v ∧ rightL v = true := by
  cases hg : getLet l with
  | err y => rw [hg] at h; simp [outLet] at h
  | ok v' r =>
    rw [hg] at h
    simp only [outLet] at h
    split at h
    · rename_i hr
      injection h with h1 h2
      injection h2 with h3
      subst h1 h3 hr
      obtain ⟨h4, h5⟩ := getLet_ok hg
      exact ⟨rfl, by simpa using h4, h5⟩
    · simp at h
theorem outLet_none {l : List UInt8} {x : Int} (h : outLet (getLet l) = (x, none)) : x ≠ 0 := by
  cases hg : getLet l with
  | err y => rw [hg] at h; simp only [outLet] at h; injection h with h1 _; rw [← h1]; exact sane_let l y hg
  | ok v' r =>
    rw [hg] at h
    simp only [outLet] at h
    split at h
    · simp at h
    · injection h with h1 _; rw [← h1]; decide
theorem outLet_put {v : PLet} (h : rightL v = true) : outLet (getLet (putL v)) = (0, some v) := by
  have h9 := getLet_put h []
  rw [List.append_nil] at h9
  rw [h9]
  rfl
theorem right_len {v : PLet} (h : rightL v = true) : v.its.length ≤ 16 := by
  obtain ⟨_, _, _, _, _, _, _, _, _, _, _, _, hi, _⟩ := rightL_nat h
  exact hi

theorem LetTo.uni {l : List UInt8} {w w' : World} {e : Ending} (h : LetTo (outLet (getLet l)) w e w') : ∃ ia ic ms ba bc, e = .returned (.tuple #[.agg (lcell (outV (outLet (getLet l))) ia (List.length ms) ic ba bc), .int .i64 (outLet (getLet l)).1]) ∧ LetAt w' w'.heap.size (outV (outLet (getLet l))) ia ic ms ba bc ∧ List.length ms ≤ 16 ∧ Below w.heap.size w w' := by
  obtain ⟨hb, hm⟩ := h
  generalize hO : outLet (getLet l) = O at hm ⊢
  obtain ⟨x, o⟩ := O
  cases o with
  | none => exact ⟨none, 0, [], none, 0, hm, letZero _, by simp, hb⟩
  | some v =>
    obtain ⟨ia, ic, ms, ba, bc, h1, h2⟩ := hm
    obtain ⟨-, -, h3⟩ := outLet_some hO
    exact ⟨ia, ic, ms, ba, bc, h1, h2, by have := h2.len; have := right_len h3; show ms.length ≤ 16; omega, hb⟩

def wakeL : PLet := ⟨2, 1, 0, 0, 0, true, [], []⟩
theorem wake_right : rightL wakeL = true := by rfl
theorem wake_put : putL wakeL = [1, 2, 1, 1, 1, 1] := by rfl
theorem wake_get : outLet (getLet [0]) = (25, none) := by rfl

set_option maxRecDepth 100000 in
set_option maxHeartbeats 1000000 in
theorem l15awake (w : World) : Calls Try.prog 70 #[] w fun e w' => e = .returned (.bool true) ∧ Below w.heap.size w w' := by
  go_enter Try.func70, Try.ntmps70
  go_wp2_with fail
  refine (letterPut wakeL none 0 [] none 0 (by simp) w ⟨itemsNil _ _, rfl, bsNil9 _ _⟩).mono ?_
  rintro e w1 ⟨hc, hb1⟩
  rcases hc with ⟨h9, -⟩ | ⟨-, a1, c1, rfl, hbs1⟩
  · rw [wake_right] at h9; cases h9
  rw [wake_put] at hbs1 ⊢
  have HB1 := Lib.hid hb1
  have HS1 := Lib.hid hbs1
  clear hb1 hbs1
  go_wp2_with fail
  have hbA : Below w1.heap.size w1 (w1.alloc (.cells #[.int .u8 0] 5)) := (Below.refl _ _).alloc (Nat.le_refl _) _
  have HA := Lib.hid (bs_new9 w1 [0] (by simp))
  have HBA := Lib.hid (HB1.out.trans (hbA.mono HB1.out.size))
  have HSA := Lib.hid (HS1.out.on hbA)
  clear hbA
  refine (letterRead [0] (some ⟨w1.heap.size, 0, none⟩) 1 1 _ HA.out).mono ?_
  rintro e w2 h2
  rw [wake_get] at h2
  obtain ⟨hb2, rfl⟩ := h2
  have HB2 := Lib.hid (HBA.out.trans (hb2.mono HBA.out.size))
  have HS2 := Lib.hid (HSA.out.on hb2)
  clear hb2
  go_wp2_with fail
  obtain ⟨W3, hW3⟩ : ∃ W, W = (w2.alloc (.cells zeroA 111)).alloc (.cells #[.int .u8 1, .int .u8 2, .int .u8 1, .int .u8 1, .int .u8 1, .int .u8 1] 5) := ⟨_, rfl⟩
  have hb3 : Below w2.heap.size w2 W3 := by rw [hW3]; exact ((Below.refl _ _).alloc (Nat.le_refl _) _).alloc (by simp) _
  have hs3 : BsAt W3 W3.heap.size (some ⟨w2.heap.size + 1, 0, none⟩) 6 6 [1, 2, 1, 1, 1, 1] := by
    rw [hW3]
    have h9 := bs_new9 (w2.alloc (.cells zeroA 111)) [1, 2, 1, 1, 1, 1] (by simp)
    rw [show (w2.alloc (.cells zeroA 111)).heap.size = w2.heap.size + 1 by simp] at h9
    exact h9
  rw [← hW3]
  refine (r1Bytes [1, 2, 1, 1, 1, 1] [1, 2, 1, 1, 1, 1] a1 _ 6 c1 6 6 _ (HS2.out.on hb3) hs3).mono ?_
  rintro e w4 ⟨rfl, hb4⟩
  have HB4 := Lib.hid (HB2.out.trans ((hb3.trans (hb4.mono hb3.size)).mono HB2.out.size))
  rw [show decide (([1, 2, 1, 1, 1, 1] : List UInt8) = [1, 2, 1, 1, 1, 1]) = true from by simp]
  clear hb3 hs3 hb4 hW3
  go_wp2_with fail
  refine (letterSame zeroL zeroL none none 0 0 [] [] none none 0 0 (by simp) w4 (letZero _) (letZero _)).mono ?_
  rintro e w5 ⟨rfl, hb5⟩
  rw [show sameL zeroL zeroL = true from by rfl]
  have HB5 := Lib.hid (HB4.out.trans (hb5.mono HB4.out.size))
  clear hb5
  go_wp2
  go_ret
  exact ⟨rfl, HB5.out⟩
end Go.Proofs.Ytogcnfhmcpkdcaa
