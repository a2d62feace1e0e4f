/-
  The statement FieldOne, its walk.
-/
import Derived.Test.YtogcnfhmcpkdcaaLaw4d
import Derived.Test.YtogcnfhmcpkdcaaNumLaw
namespace Go.Proofs.Ytogcnfhmcpkdcaa
open Go.RowKit
set_option linter.unusedVariables false

theorem getNum_lt {v : Nat} {l r : List UInt8} (h : getNum 18446744073709551615 l = .ok v r) : v < 18446744073709551616 := by
  have := getNum_le h
  omega

/-- what stands behind a reading of one number -/
def OneIs (l : List UInt8) (p : Nat) (w0 w' : World) (x : Int) : Prop :=
  Below p w0 w' ∧ p < w'.heap.size ∧ (x ≠ 0 ∨ (x = 0 ∧ ∃ v, getNum 18446744073709551615 l = .ok v [] ∧ w'.cell? ⟨p, 0, none⟩ = some (.int .u64 v)))

set_option maxRecDepth 100000 in
set_option maxHeartbeats 2000000 in
theorem fieldOne_calls (l : List UInt8) (a : Option Addr) (n c : Nat) (w : World) (hn : n = l.length) (h : n ≤ 20 → BsAt w w.heap.size a n c l) :
    Calls Try.prog 4 #[.slice a n c] w fun e w' => e = .returned (.bool true) ∧ Below w.heap.size w w' := by
  subst hn
  by_cases h20 : l.length ≤ 20
  · have t1 : decide ((20 : Int) < (l.length : Int)) = false := by simp; omega
    have hbs := h h20
    have HBS := Lib.hid hbs
    clear h hbs
    go_enter Try.func4, Try.ntmps4
    go_wp2_with fail
    obtain ⟨W0, hW0⟩ : ∃ W0, W0 = w.alloc (.cells #[.int .u64 0] 34) := ⟨_, rfl⟩
    rw [← hW0]
    have hb0 : Below w.heap.size w W0 := by rw [hW0]; exact (Below.refl _ w).alloc (Nat.le_refl _) _
    have hs0 : W0.heap.size = w.heap.size + 1 := by rw [hW0]; simp
    have p0 : W0.cell? ⟨w.heap.size, 0, none⟩ = some (.int .u64 0) := by rw [hW0]; simp [go_sem]
    have pz : W0.frozen? ⟨w.heap.size, 0, none⟩ = false := by rw [hW0]; simp [go_sem]
    have P0 := Lib.hid p0
    have PZ := Lib.hid pz
    have HB0 := Lib.hid hb0
    clear p0 pz hb0 hW0
    refine (fieldRead l a l.length c 28 (enterOf Try.func28 (by kernel_rfl) rfl) #[.pointer (some ⟨w.heap.size, 0, none⟩)] W0 ((HBS.out.below HB0.out (Nat.le_refl _)).mono HB0.out.size)
      (fun q w1 w' x => OneIs l w.heap.size w w' x) ?_).mono ?_
    · intro q w1 hb hq heye
      show Calls _ 28 #[.pointer (some ⟨w.heap.size, 0, none⟩), .pointer (some ⟨q, 0, none⟩)] w1 _
      have hs1 := hb.size
      refine (oneRead q w.heap.size 0 l w1 heye (by omega) (by omega) ?_ ?_).mono ?_
      · rw [hb.cell (p := ⟨w.heap.size, 0, none⟩) (by show w.heap.size < _; omega)]; exact P0.out
      · rw [hb.frozen (p := ⟨w.heap.size, 0, none⟩) (by show w.heap.size < _; omega)]; exact PZ.out
      rintro e w' ⟨s1, f1, f2, f3, f4, hr⟩
      have hbw := HB0.out.trans (hb.mono (show w.heap.size ≤ W0.heap.size by omega))
      have hbe : Below w.heap.size w w' := ⟨f2.trans hbw.os, f3.trans hbw.tape, f4.trans hbw.output, by omega, fun k hk => (f1 k (by omega) (by omega) (by omega)).trans (hbw.block k hk)⟩
      refine ⟨s1, fun k h1 h2 h3 => f1 k h2 h3 (by omega), ?_⟩
      rcases hr with ⟨x, hx, rfl⟩ | ⟨v, r, hx, rfl, he, hc⟩
      · exact ⟨x, .inl ⟨rfl, getNum_err hx⟩, hbe, by omega, .inl (getNum_err hx)⟩
      · by_cases hr0 : r = []
        · subst hr0
          exact ⟨0, .inr ⟨rfl, [], he, by simp⟩, hbe, by omega, .inr ⟨rfl, v, hx, hc⟩⟩
        · exact ⟨3, .inr ⟨rfl, r, he, by simp [hr0]⟩, hbe, by omega, .inl (by decide)⟩
    · rintro e w2 ⟨q, w1', w', x, rb, rfl, hb1, h1, h2, h3, h4, h5, ⟨hbl, hps, hx⟩, hbut⟩
      have hb2 : Below w.heap.size w w2 := hbl.trans ⟨hbut.os, hbut.tape, hbut.output, hbut.size, fun k hk => hbut.block k (by have := hbl.size; omega) (by omega)⟩
      have HB2 := Lib.hid hb2
      have hs2 : w.heap.size < w2.heap.size := by have := hbut.size; omega
      rcases hx with hx | ⟨rfl, v, hg, hc⟩
      · have t2 : (x != 0) = true := by simpa using hx
        clear hbl hbut hb2 hb1 hx
        go_wp2_with fail
        refine (awake4 _).mono ?_
        rintro e w3 ⟨rfl, hb3⟩
        go_wp2
        go_ret
        exact ⟨rfl, HB2.out.trans (hb3.mono HB2.out.size)⟩
      · have hc2 : w2.cell? ⟨w.heap.size, 0, none⟩ = some (.int .u64 v) := (World.cell?_of_block (a := ⟨w.heap.size, 0, none⟩) (hbut.block w.heap.size hps (by omega))).trans hc
        have HG := Lib.hid hg
        clear hbl hbut hb2 hb1 hc hg
        go_wp2_with fail
        refine (penNum w2.heap.size v (getNum_lt HG.out) _ _ (by simp) _ (PenAt.fresh 5 36 w2)).mono ?_
        rintro e w3 ⟨rfl, v3, hp3, ht3⟩
        have HP3 := Lib.hid hp3
        have HT3 := Lib.hid (((Below.refl _ w2).alloc (Nat.le_refl _) _).trans (ht3.below (PenAt.fresh 5 36 w2) (Nat.le_refl _)))
        clear hp3 ht3 hc2
        have hput : [] ++ putNum v = l := by rw [List.nil_append]; exact putNum_of_get HG.out
        rw [hput] at HP3
        clear hput
        go_wp2_with fail
        refine (penBytes w2.heap.size v3 l (by omega) _ HP3.out).mono ?_
        rintro e w4 ⟨a4, c4, rfl, hbs4, hb4, -⟩
        have hB24 := HT3.out.trans (hb4.mono HT3.out.size)
        have hB04 := HB2.out.trans (hB24.mono (by omega))
        have hbs5 : BsAt w4 w4.heap.size a l.length c l := (HBS.out.below hB04 (Nat.le_refl _)).mono hB04.size
        have HB04 := Lib.hid hB04
        clear hb4 hB24 hB04
        go_wp2_with fail
        refine (r1Bytes l l a4 a l.length c4 l.length c _ hbs4 hbs5).mono ?_
        rintro e w5 ⟨rfl, hb5⟩
        have HB5 := Lib.hid (HB04.out.trans (hb5.mono HB04.out.size))
        clear hb5 hbs4 hbs5
        simp only [decide_true]
        go_wp2_with fail
        refine (awake4 _).mono ?_
        rintro e w6 ⟨rfl, hb6⟩
        go_wp2
        go_ret
        exact ⟨rfl, HB5.out.trans (hb6.mono HB5.out.size)⟩
  · have t1 : decide ((20 : Int) < (l.length : Int)) = true := by simp; omega
    go_enter Try.func4, Try.ntmps4
    go_wp2_with fail
    refine (awake4 _).mono ?_
    rintro e w1 ⟨rfl, hb⟩
    go_wp2
    go_ret
    exact ⟨rfl, hb⟩
end Go.Proofs.Ytogcnfhmcpkdcaa
