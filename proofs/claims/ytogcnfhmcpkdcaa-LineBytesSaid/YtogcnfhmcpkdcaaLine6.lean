/-
  The document's example of layer 17 (awake) answers true.
-/
import Derived.Test.YtogcnfhmcpkdcaaLine5
namespace Go.Proofs.Ytogcnfhmcpkdcaa
open Go.RowKit
set_option linter.unusedVariables false
set_option linter.unusedSimpArgs false

theorem bsNil (w : World) (B : Nat) : BsAt w B none ([] : List UInt8).length 0 [] := BsAt.zero _ _ _ _ (by simp [maxLen]) (fun _ => rfl)

/-- an item without bytes -/
def mk1 (t : Int) : MItem := ⟨t, none, 0, 0, []⟩

theorem items_one (w : World) (t : Int) : ItemsAt (w.alloc (.cells #[.int .i64 t, .slice none 0 0] 45)) (w.alloc (.cells #[.int .i64 t, .slice none 0 0] 45)).heap.size (some ⟨w.heap.size, 0, none⟩) [mk1 t].length 1 [mk1 t] :=
  ⟨(slAt_item w #[.int .i64 t, .slice none 0 0] 45 2 rfl).mono (by simp), fun m hm => by simp at hm; subst hm; exact bsNil _ _⟩

theorem LineAt.turn {w w' : World} {base p B : Nat} {x : PLine} {la : Option Addr} {lc : Nat} {ms : List MItem} (h : LnAt w base p x la lc ms) (ht : Turned p (Value.slice la ms.length lc).ownBlock w w') (hB : B ≤ base) (hs : B ≤ w.heap.size) : Below B w w' :=
  ht.below (Nat.le_trans hB h.pb) (fun k hk => Nat.le_trans hB (own_lt h.own hk).1) hs

def x4 (l : List PItem) : PLine := ⟨4, 1, l⟩
theorem x4_good : (x4 []).Good := new_good (b := 4) (t := 1) (by rfl)
theorem x4_a1 : (x4 []).add (1, []) = (x4 [(1, [])], 5) := by unfold PLine.add; rw [if_pos (by simp [rightI, fitsB, x4])]; rfl
theorem x4_a2 : (x4 [(1, [])]).add (1, []) = (x4 [(1, []), (1, [])], 6) := by unfold PLine.add; rw [if_pos (by simp [rightI, fitsB, x4])]; rfl
theorem x4_a3 : (x4 [(1, []), (1, [])]).add (2, []) = (x4 [(1, []), (1, []), (2, [])], 7) := by unfold PLine.add; rw [if_pos (by simp [rightI, fitsB, x4])]; rfl
theorem x4_j : (x4 [(1, []), (1, []), (2, [])]).join 6 1 ([mk1 3].map MItem.it) = (x4 [(1, []), (1, []), (3, [])], 7, true) := by rfl

set_option maxRecDepth 100000 in
set_option maxHeartbeats 4000000 in
theorem l17awake (w : World) : Calls Try.prog 37 #[] w fun e w' => e = .returned (.bool true) ∧ Below w.heap.size w w' := by
  have g0 := x4_good
  have g1 := g0.add (1, [])
  rw [x4_a1] at g1
  have g2 := g1.add (1, [])
  rw [x4_a2] at g2
  have g3 := g2.add (2, [])
  rw [x4_a3] at g3
  have g4 := g3.join 6 1 ([mk1 3].map MItem.it)
  rw [x4_j] at g4
  have G0 := Lib.hid g0
  have G1 := Lib.hid g1
  have G2 := Lib.hid g2
  have G3 := Lib.hid g3
  have G4 := Lib.hid g4
  clear g0 g1 g2 g3 g4
  go_enter Try.func37, Try.ntmps37
  go_wp2_with fail
  refine (lineNew_yes 4 1 (by rfl) _).mono ?_
  rintro e w1 ⟨rfl, hl1, hb1, hs1⟩
  have HL1 := Lib.hid hl1
  have HB1 := Lib.hid hb1
  clear hl1 hb1
  go_wp2_with fail
  refine (lineAdd w.heap.size w.heap.size (x4 []) G0.out none 0 [] 1 none 0 [] w1 HL1.out (bsNil _ _) (by omega)).mono ?_
  rintro e w2 ⟨rfl, a2, c2, m2, hl2, ht2, ho2⟩
  rw [x4_a1] at hl2 ⊢
  have HL2 := Lib.hid hl2
  have HT2 := Lib.hid ht2
  have HO2 := Lib.hid ho2
  have hs2 := ht2.size
  clear hl2 ht2 ho2
  go_wp2_with fail
  refine (lineAdd w.heap.size w.heap.size (x4 [(1, [])]) G1.out a2 c2 m2 1 none 0 [] w2 HL2.out (bsNil _ _) (by omega)).mono ?_
  rintro e w3 ⟨rfl, a3, c3, m3, hl3, ht3, ho3⟩
  rw [x4_a2] at hl3 ⊢
  have HL3 := Lib.hid hl3
  have HT3 := Lib.hid ht3
  have HO3 := Lib.hid ho3
  have hs3 := ht3.size
  clear hl3 ht3 ho3
  go_wp2_with fail
  refine (lineAdd w.heap.size w.heap.size (x4 [(1, []), (1, [])]) G2.out a3 c3 m3 2 none 0 [] w3 HL3.out (bsNil _ _) (by omega)).mono ?_
  rintro e w4 ⟨rfl, a4, c4, m4, hl4, ht4, ho4⟩
  rw [x4_a3] at hl4 ⊢
  have HL4 := Lib.hid hl4
  have HT4 := Lib.hid ht4
  have HO4 := Lib.hid ho4
  have hs4 := ht4.size
  clear hl4 ht4 ho4
  have HB4 := Lib.hid (HB1.out.trans ((HL1.out.turn HT2.out (Nat.le_refl _) (by omega)).trans ((HL2.out.turn HT3.out (Nat.le_refl _) (by omega)).trans (HL3.out.turn HT4.out (Nat.le_refl _) (by omega)))))
  go_wp2_with fail
  have hbA : Below w4.heap.size w4 (w4.alloc (.cells #[.int .i64 3, .slice none 0 0] 45)) := (Below.refl _ _).alloc (Nat.le_refl _) _
  have HBA := Lib.hid hbA
  have HLA := Lib.hid (HL4.out.below hbA)
  clear hbA
  have hpl4 := HL4.out.lt
  refine (lineJoin w.heap.size w.heap.size (x4 [(1, []), (1, []), (2, [])]) G3.out a4 c4 m4 6 1 [mk1 3] (some ⟨w4.heap.size, 0, none⟩) 1 _ HLA.out (items_one w4 3) (by simp) (fun _ ad e => by cases e; show w4.heap.size ≠ _; omega) (by simp; omega)).mono ?_
  rintro e w5 ⟨rfl, a5, c5, m5, hl5, ht5, ho5⟩
  rw [x4_j] at hl5 ⊢
  have HL5 := Lib.hid hl5
  have HT5 := Lib.hid ht5
  have hs5 := ht5.size
  simp only [World.size_alloc] at hs5
  have HB5 := Lib.hid (HB4.out.trans ((HBA.out.mono (by omega)).trans (HLA.out.turn HT5.out (Nat.le_refl _) (by simp; omega))))
  clear hl5 ht5 ho5
  go_wp2_with fail
  refine (lineLast w.heap.size w.heap.size (x4 [(1, []), (1, []), (3, [])]) G4.out a5 c5 m5 w5 HL5.out).mono ?_
  rintro e w6 ⟨rfl, n6, rfl⟩
  have HB6 := Lib.hid (HB5.out.trans ((below_drewN w5 n6).mono (by omega)))
  rw [show (x4 [(1, []), (1, []), (3, [])]).last = 7 from rfl, show tmIs (x4 [(1, []), (1, []), (3, [])]) 7 = (3, true) from by rfl]
  go_wp2_with fail
  refine (lineNew_no (-1) 0 (by rfl) _).mono ?_
  rintro e w7 ⟨rfl, rfl⟩
  go_wp2
  go_ret
  exact ⟨rfl, HB6.out⟩
end Go.Proofs.Ytogcnfhmcpkdcaa
