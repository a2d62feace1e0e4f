/-
  The laws LetterReads and LetterOne: the walks.
-/
import Derived.Test.YtogcnfhmcpkdcaaLaw15a
import Derived.Test.YtogcnfhmcpkdcaaLetM5
import Derived.Test.YtogcnfhmcpkdcaaLet3
import Derived.Test.YtogcnfhmcpkdcaaLetM2
namespace Go.Proofs.Ytogcnfhmcpkdcaa
open Go.RowKit
set_option linter.unusedVariables false
set_option linter.unusedSimpArgs false

set_option maxRecDepth 100000 in
set_option maxHeartbeats 1000000 in
theorem letterReads_calls (l : List UInt8) (a : Option Addr) (c : Nat) (w : World) (h : l.length ≤ 500 → BsAt w w.heap.size a l.length c l) :
    Calls Try.prog 15 #[.slice a l.length c] w fun e w' => e = .returned (.bool true) ∧ Below w.heap.size w w' := by
  by_cases h500 : l.length ≤ 500
  · have H := Lib.hid (h h500)
    have t1 : decide ((500 : Int) < (l.length : Int)) = false := by simp; omega
    clear h h500
    obtain ⟨O, hO⟩ : ∃ O, O = outLet (getLet l) := ⟨_, rfl⟩
    have HO := Lib.hid hO
    clear hO
    go_enter Try.func15, Try.ntmps15
    go_wp2_with fail
    refine (letterRead l a l.length c _ H.out).mono ?_
    rintro e w1 h1
    obtain ⟨ia, ic, ms, ba, bc, rfl, hl1, hm1, hb1⟩ := h1.uni
    rw [← HO.out] at hl1 ⊢
    have HB1 := Lib.hid hb1
    have HL1 := Lib.hid hl1
    clear h1 hb1 hl1
    go_wp2_with fail
    obtain ⟨W2, hW2⟩ : ∃ W, W = w1.alloc (.cells (lcell (outV O) ia ms.length ic ba bc) 111) := ⟨_, rfl⟩
    rw [← hW2]
    have hb2 : Below w1.heap.size w1 W2 := by rw [hW2]; exact (Below.refl _ _).alloc (Nat.le_refl _) _
    have hr2 : W2.heap[w1.heap.size]? = some (.cells (lcell (outV O) ia ms.length ic ba bc) 111 (0, 0)) := by rw [hW2]; exact heap_alloc_new _ _
    have hs2 : w1.heap.size < W2.heap.size := by rw [hW2]; simp
    have HB2 := Lib.hid (HB1.out.trans (hb2.mono HB1.out.size))
    have HL2 := Lib.hid (HL1.out.on hb2)
    have HR2 := Lib.hid hr2
    clear hW2 hb2 hr2
    refine (r15Read l a l.length c _ ((H.out.on HB2.out))).mono ?_
    rintro e w3 h3
    obtain ⟨ja, jc, ns, ca, cc, rfl, hl3, hm3, hb3⟩ := h3.uni
    rw [← HO.out] at hl3 ⊢
    have HB3 := Lib.hid (HB2.out.trans (hb3.mono HB2.out.size))
    have HL23 := Lib.hid (HL2.out.on hb3)
    have HL3 := Lib.hid hl3
    have hr3 := (hb3.block _ hs2).trans HR2.out
    obtain ⟨c0, c1, c2, c3, c4, c5, c6, c7⟩ := letCells hr3
    have hs3 := hb3.size
    have hlt3 : w1.heap.size < w3.heap.size := by omega
    have tO : (O.1 == O.1) = true := by simp
    obtain ⟨W4, hW4⟩ : ∃ W, W = w3.alloc (.cells (lcell (outV O) ja ns.length jc ca cc) 111) := ⟨_, rfl⟩
    have hb4 : Below w3.heap.size w3 W4 := by rw [hW4]; exact (Below.refl _ _).alloc (Nat.le_refl _) _
    have HB4 := Lib.hid (HB3.out.trans (hb4.mono HB3.out.size))
    have HX4 := Lib.hid (HL23.out.on hb4)
    have HZ4 := Lib.hid (HL3.out.on hb4)
    have HW4 := Lib.hid hW4
    clear h3 hb3 hl3 hr3 hb4 hW4
    go_wp2_with fail
    rw [← HW4.out]
    refine (r15Same (outV O) (outV O) ia ja ic jc ms ns ba ca bc cc (by omega) _ HX4.out HZ4.out).mono ?_
    rintro e w5 ⟨rfl, hb5⟩
    rw [show sameL (outV O) (outV O) = true from (sameL_iff _ _).2 rfl]
    have HB5 := Lib.hid (HB4.out.trans (hb5.mono HB4.out.size))
    clear hb5 c0 c1 c2 c3 c4 c5 c6 c7
    go_wp2_with fail
    refine (l15awake _).mono ?_
    rintro e w6 ⟨rfl, hb6⟩
    have HB6 := Lib.hid (HB5.out.trans (hb6.mono HB5.out.size))
    clear hb6
    go_wp2
    go_ret
    exact ⟨rfl, HB6.out⟩
  · have t1 : decide ((500 : Int) < (l.length : Int)) = true := by simp; omega
    clear h
    go_enter Try.func15, Try.ntmps15
    go_wp2_with fail
    refine (l15awake _).mono ?_
    rintro e w5 ⟨rfl, hb5⟩
    have HB5 := Lib.hid hb5
    clear hb5
    go_wp2
    go_ret
    exact ⟨rfl, HB5.out⟩

set_option maxRecDepth 100000 in
set_option maxHeartbeats 1000000 in
theorem letterOne_calls (l : List UInt8) (a : Option Addr) (c : Nat) (w : World) (h : l.length ≤ 500 → BsAt w w.heap.size a l.length c l) :
    Calls Try.prog 16 #[.slice a l.length c] w fun e w' => e = .returned (.bool true) ∧ Below w.heap.size w w' := by
  by_cases h500 : l.length ≤ 500
  · have H := Lib.hid (h h500)
    have t1 : decide ((500 : Int) < (l.length : Int)) = false := by simp; omega
    clear h h500
    obtain ⟨⟨x, o⟩, hO⟩ : ∃ O, O = outLet (getLet l) := ⟨_, rfl⟩
    cases o with
    | none =>
      have hx := outLet_none hO.symm
      have tx : (x != 0) = true := by simpa using hx
      have HO := Lib.hid hO
      clear hO hx
      go_enter Try.func16, Try.ntmps16
      go_wp2_with fail
      refine (letterRead l a l.length c _ H.out).mono ?_
      rintro e w1 h1
      rw [← HO.out] at h1
      obtain ⟨hb1, rfl⟩ := h1
      have HB1 := Lib.hid hb1
      clear hb1
      go_wp2_with fail
      obtain ⟨W2, hW2⟩ : ∃ W, W = w1.alloc (.cells zeroA 111) := ⟨_, rfl⟩
      rw [← hW2]
      have hb2 : Below w1.heap.size w1 W2 := by rw [hW2]; exact (Below.refl _ _).alloc (Nat.le_refl _) _
      refine (l15awake _).mono ?_
      rintro e w5 ⟨rfl, hb5⟩
      have HB5 := Lib.hid (HB1.out.trans ((hb2.trans (hb5.mono hb2.size)).mono HB1.out.size))
      clear hb2 hb5 hW2
      go_wp2
      go_ret
      exact ⟨rfl, HB5.out⟩
    | some v =>
      obtain ⟨rfl, hl, hR⟩ := outLet_some hO.symm
      have hlen := right_len hR
      have HR := Lib.hid hR
      have HE := Lib.hid hl
      have HO := Lib.hid hO
      clear hO hR hl
      go_enter Try.func16, Try.ntmps16
      go_wp2_with fail
      refine (letterRead l a l.length c _ H.out).mono ?_
      rintro e w1 h1
      rw [← HO.out] at h1
      obtain ⟨hb1, ia, ic, ms, ba, bc, rfl, hl1⟩ := h1
      have hm1 : ms.length ≤ 16 := by rw [hl1.len]; exact hlen
      have HB1 := Lib.hid hb1
      have HL1 := Lib.hid hl1
      clear hb1 hl1
      obtain ⟨W2, hW2⟩ : ∃ W, W = w1.alloc (.cells (lcell v ia ms.length ic ba bc) 111) := ⟨_, rfl⟩
      have hb2 : Below w1.heap.size w1 W2 := by rw [hW2]; exact (Below.refl _ _).alloc (Nat.le_refl _) _
      have hr2 : W2.heap[w1.heap.size]? = some (.cells (lcell v ia ms.length ic ba bc) 111 (0, 0)) := by rw [hW2]; exact heap_alloc_new _ _
      have hs2 : w1.heap.size < W2.heap.size := by rw [hW2]; simp
      have HB2 := Lib.hid (HB1.out.trans (hb2.mono HB1.out.size))
      have HL2 := Lib.hid (HL1.out.on hb2)
      have HR2 := Lib.hid hr2
      have HW2 := Lib.hid hW2
      clear hW2 hb2 hr2
      go_wp2_with fail
      rw [← HW2.out]
      refine (letterPut v ia ic ms ba bc (by omega) _ HL2.out).mono ?_
      rintro e w3 ⟨hc, hb3⟩
      rcases hc with ⟨h9, -⟩ | ⟨-, pa, pc, rfl, hbs3⟩
      · rw [HR.out] at h9; cases h9
      have HB3 := Lib.hid (HB2.out.trans (hb3.mono HB2.out.size))
      have HL3 := Lib.hid (HL2.out.on hb3)
      have HBS3 := Lib.hid hbs3
      have hr3 := (hb3.block _ hs2).trans HR2.out
      obtain ⟨c0, c1, c2, c3, c4, c5, c6, c7⟩ := letCells hr3
      clear hb3 hbs3 hr3
      go_wp2_with fail
      refine (letterRight v ia ic ms ba bc (by omega) _ HL3.out).mono ?_
      rintro e w4 ⟨rfl, hb4⟩
      rw [HR.out]
      have HB4 := Lib.hid (HB3.out.trans (hb4.mono HB3.out.size))
      have HBS4 := Lib.hid (HBS3.out.on hb4)
      clear hb4 c0 c1 c2 c3 c4 c5 c6 c7
      go_wp2_with fail
      refine (r1Bytes l (putL v) a pa l.length c (putL v).length pc _ (H.out.on HB4.out) HBS4.out).mono ?_
      rintro e w5 ⟨rfl, hb5⟩
      rw [show decide (l = putL v) = true from by simp [HE.out]]
      have HB5 := Lib.hid (HB4.out.trans (hb5.mono HB4.out.size))
      clear hb5
      go_wp2_with fail
      refine (l15awake _).mono ?_
      rintro e w6 ⟨rfl, hb6⟩
      have HB6 := Lib.hid (HB5.out.trans (hb6.mono HB5.out.size))
      clear hb6
      go_wp2
      go_ret
      exact ⟨rfl, HB6.out⟩
  · have t1 : decide ((500 : Int) < (l.length : Int)) = true := by simp; omega
    clear h
    go_enter Try.func16, Try.ntmps16
    go_wp2_with fail
    refine (l15awake _).mono ?_
    rintro e w5 ⟨rfl, hb5⟩
    have HB5 := Lib.hid hb5
    clear hb5
    go_wp2
    go_ret
    exact ⟨rfl, HB5.out⟩
end Go.Proofs.Ytogcnfhmcpkdcaa
