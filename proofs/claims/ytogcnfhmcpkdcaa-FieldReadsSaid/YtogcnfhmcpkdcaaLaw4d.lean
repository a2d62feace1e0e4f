/-
  The document's example of layer 4 (awake) answers true.
-/
import Derived.Test.YtogcnfhmcpkdcaaLaw4c
import Derived.Test.YtogcnfhmcpkdcaaPen2
namespace Go.Proofs.Ytogcnfhmcpkdcaa
open Go.RowKit
set_option linter.unusedVariables false

theorem PenAt.fresh (U8 T : TypeId) (w : World) : PenAt U8 (w.alloc (.cells #[.slice none 0 0] T)) w.heap.size (.slice none 0 0) [] :=
  ⟨by simp, by simp [go_sem], by simp [go_sem], ⟨rfl, .inl ⟨rfl, rfl⟩⟩⟩

/-- a slice that was just built, of bytes -/
theorem bsAt_new (w : World) (l : List UInt8) (T : TypeId) (hl : l.length ≤ 1000) : BsAt (w.alloc (.cells (l.map bv).toArray T)) (w.alloc (.cells (l.map bv).toArray T)).heap.size (some ⟨w.heap.size, 0, none⟩) l.length l.length l :=
  ⟨rfl, Nat.le_refl _, by unfold maxLen; omega, fun e => by simp at e, by omega, fun hp => ⟨w.heap.size, 0, rfl, by simp, fun i hi => by
    have h9 := cell_of_row (w.alloc (.cells (l.map bv).toArray T)) w.heap.size (0 + i) (l.map bv).toArray T (0, 0) (by show (w.heap.push _)[w.heap.size]? = _; simp)
    rw [h9]
    simp [List.getD, List.getElem?_eq_getElem hi]⟩⟩

set_option maxRecDepth 100000 in
set_option maxHeartbeats 2000000 in
theorem awake4 : Awake4 := by
  intro w
  have hp0 := PenAt.fresh 5 36 w
  have HP0 := Lib.hid hp0
  clear hp0
  go_enter Try.func25, Try.ntmps25
  go_wp2_with fail
  refine (penNum w.heap.size 300 (by omega) _ _ (by simp) _ HP0.out).mono ?_
  rintro e w1 ⟨rfl, v1, hp1, ht1⟩
  have HP1 := Lib.hid hp1
  have HT1 := Lib.hid ht1
  clear hp1 ht1
  go_wp2_with fail
  refine (penNum w.heap.size 0 (by omega) _ _ (by rw [show putNum 300 = [2, 1, 44] from by rfl]; simp) _ HP1.out).mono ?_
  rintro e w2 ⟨rfl, v2, hp2, ht2⟩
  rw [show [] ++ putNum 300 ++ putNum 0 = [2, 1, 44, 0] from by rfl] at hp2
  have HP2 := Lib.hid hp2
  have HT2 := Lib.hid (HT1.out.trans ht2)
  clear hp2 ht2
  go_wp2_with fail
  obtain ⟨W0, hW0⟩ : ∃ W0, W0 = (w2.alloc (.cells #[.int .u64 0] 34)).alloc (.cells #[.int .u8 2, .int .u8 1, .int .u8 44] 5) := ⟨_, rfl⟩
  rw [← hW0]
  have hb0 : Below w2.heap.size w2 W0 := by rw [hW0]; exact ((Below.refl _ w2).alloc (Nat.le_refl _) _).alloc (by simp) _
  have hs0 : W0.heap.size = w2.heap.size + 2 := by rw [hW0]; simp
  have p0 : W0.cell? ⟨w2.heap.size, 0, none⟩ = some (.int .u64 0) := by rw [hW0]; simp [go_sem]
  have pz : W0.frozen? ⟨w2.heap.size, 0, none⟩ = false := by rw [hW0]; simp [go_sem]
  have bs0 : BsAt W0 W0.heap.size (some ⟨w2.heap.size + 1, 0, none⟩) 3 3 [2, 1, 44] := by
    have := bsAt_new (w2.alloc (.cells #[.int .u64 0] 34)) [2, 1, 44] 5 (by simp)
    rw [World.size_alloc w2] at this
    rw [hW0]; exact this
  have P0 := Lib.hid p0
  have PZ := Lib.hid pz
  have HB0 := Lib.hid hb0
  clear p0 pz hb0 hW0
  refine (fieldRead [2, 1, 44] (some ⟨w2.heap.size + 1, 0, none⟩) 3 3 28 (enterOf Try.func28 (by kernel_rfl) rfl) #[.pointer (some ⟨w2.heap.size, 0, none⟩)] #[] W0 bs0
    (fun q w1 w' x => x = 0 ∧ w'.cell? ⟨w2.heap.size, 0, none⟩ = some (.int .u64 300) ∧ Below w2.heap.size w2 w' ∧ w2.heap.size < w'.heap.size) ?_).mono ?_
  · intro q w1 hb hq heye
    show Calls _ 28 #[.pointer (some ⟨w2.heap.size, 0, none⟩), .pointer (some ⟨q, 0, none⟩)] w1 _
    have hs1 := hb.size
    refine (oneRead q w2.heap.size 0 [2, 1, 44] w1 heye (by omega) (by omega) ?_ ?_).mono ?_
    · rw [hb.cell (p := ⟨w2.heap.size, 0, none⟩) (by show w2.heap.size < _; omega)]; exact P0.out
    · rw [hb.frozen (p := ⟨w2.heap.size, 0, none⟩) (by show w2.heap.size < _; omega)]; exact PZ.out
    rintro e w' ⟨s1, f1, f2, f3, f4, hr⟩
    have hbw := HB0.out.trans (hb.mono (show w2.heap.size ≤ W0.heap.size by omega))
    have hg : getNum 18446744073709551615 [2, 1, 44] = .ok 300 [] := by rfl
    rcases hr with ⟨x, hx, _⟩ | ⟨v, r, hx, rfl, he, hc⟩
    · rw [hg] at hx; cases hx
    · rw [hg] at hx; cases hx
      exact ⟨s1, fun k h1 h2 h3 => f1 k h2 h3 (by omega), 0, .inr ⟨rfl, [], he.len, by simp⟩, rfl, hc, ⟨f2.trans hbw.os, f3.trans hbw.tape, f4.trans hbw.output, by omega, fun k hk => (f1 k (by omega) (by omega) (by omega)).trans (hbw.block k hk)⟩, by omega⟩
  · rintro e w3 ⟨q, w1', w', x, rb, rfl, hb1, h1, h2, h3, h4, h5, ⟨rfl, hc, hbl, hps⟩, hbut⟩
    have hc3 : w3.cell? ⟨w2.heap.size, 0, none⟩ = some (.int .u64 300) := (World.cell?_of_block (a := ⟨w2.heap.size, 0, none⟩) (hbut.block w2.heap.size hps (by omega))).trans hc
    have hs3 : w2.heap.size < w3.heap.size := by have := hbut.size; omega
    have hb3 : Below w2.heap.size w2 w3 := hbl.trans ⟨hbut.os, hbut.tape, hbut.output, hbut.size, fun k hk => hbut.block k (by have := hbl.size; omega) (by omega)⟩
    have HP3 := Lib.hid (HP2.out.below hb3)
    have HB3 := Lib.hid hb3
    have C3 := Lib.hid hc3
    clear hc hbl hbut hb3 hb1 bs0 hc3
    go_wp2_with fail
    refine (penBytes w.heap.size v2 [2, 1, 44, 0] (by simp) _ HP3.out).mono ?_
    rintro e w4 ⟨a, c, rfl, hbs4, hb4, -⟩
    have HBS4 := Lib.hid hbs4
    have HB4 := Lib.hid hb4
    have hs4 : w3.heap.size ≤ w4.heap.size := hb4.size
    clear hbs4 hb4
    go_wp2_with fail
    have hb5 : Below w4.heap.size w4 (w4.alloc (.cells #[.int .u8 2, .int .u8 1, .int .u8 44, .int .u8 0] 5)) := (Below.refl _ w4).alloc (Nat.le_refl _) _
    refine (r1Bytes [2, 1, 44, 0] [2, 1, 44, 0] a (some ⟨w4.heap.size, 0, none⟩) 4 c 4 4 _ ((HBS4.out.below hb5 (Nat.le_refl _)).mono hb5.size) (bsAt_new w4 [2, 1, 44, 0] 5 (by simp))).mono ?_
    rintro e w6 ⟨rfl, hb6⟩
    have hbA : Below w3.heap.size w3 w6 := HB4.out.trans ((hb5.mono hs4).trans (hb6.mono (by simp; omega)))
    have hc6 : w6.cell? ⟨w2.heap.size, 0, none⟩ = some (.int .u64 300) := (hbA.cell (p := ⟨w2.heap.size, 0, none⟩) hs3).trans C3.out
    have hpn : Below w.heap.size w w2 := ((Below.refl _ w).alloc (Nat.le_refl _) _).trans (HT2.out.below (PenAt.fresh 5 36 w) (Nat.le_refl _))
    have hbB : Below w.heap.size w w6 := (hpn.trans (HB3.out.mono hpn.size)).trans (hbA.mono (by have := hpn.size; omega))
    have HBB := Lib.hid hbB
    clear hb5 hb6 hbA hbB hpn
    simp only [decide_true]
    go_wp2
    go_ret
    exact ⟨rfl, HBB.out⟩
end Go.Proofs.Ytogcnfhmcpkdcaa
