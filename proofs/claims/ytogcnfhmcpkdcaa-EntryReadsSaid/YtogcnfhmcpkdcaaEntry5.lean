/-
  Contracts of the reference's Right of entries, and of its Bytes of a digest.
-/
import Derived.Test.YtogcnfhmcpkdcaaEntry4
import Derived.Test.YtogcnfhmcpkdcaaRefNum
namespace Go.Proofs.Ytogcnfhmcpkdcaa
open Go.RowKit
set_option linter.unusedVariables false
set_option linter.unusedSimpArgs false

set_option maxRecDepth 100000 in
set_option maxHeartbeats 4000000 in
theorem refEntryRight (x : PEntry) (hx : x.tx.length = 32) (w : World) :
    Calls Try.prog 61 #[.agg (eagg x)] w fun e w' => e = .returned (.bool (rightE x)) ∧ Below w.heap.size w w' := by
  obtain ⟨b1, h1⟩ : ∃ b, decide (1 ≤ x.k) = b := ⟨_, rfl⟩
  obtain ⟨b2, h2⟩ : ∃ b, decide (x.k ≤ 3) = b := ⟨_, rfl⟩
  obtain ⟨b3, h3⟩ : ∃ b, decide (0 ≤ x.s) = b := ⟨_, rfl⟩
  obtain ⟨b4, h4⟩ : ∃ b, decide (x.s ≤ 63) = b := ⟨_, rfl⟩
  obtain ⟨b5, h5⟩ : ∃ b, decide ((x.a : Int) ≤ 4611686018427387904) = b := ⟨_, rfl⟩
  obtain ⟨b6, h6⟩ : ∃ b, decide (0 ≤ x.y) = b := ⟨_, rfl⟩
  obtain ⟨b7, h7⟩ : ∃ b, decide (x.y ≤ 63) = b := ⟨_, rfl⟩
  obtain ⟨b8, h8⟩ : ∃ b, decide (0 ≤ x.p) = b := ⟨_, rfl⟩
  obtain ⟨b9, h9⟩ : ∃ b, decide (x.p ≤ 1099511627776) = b := ⟨_, rfl⟩
  have h5' : decide (x.a ≤ 4611686018427387904) = b5 := by rw [← h5, Bool.eq_iff_iff]; simp; omega
  have e1 : rightE x = ((b1 && b2) && ((b3 && b4) && (b5 && ((b6 && b7) && (b8 && b9))))) := by
    rw [← h1, ← h2, ← h3, ← h4, ← h5', ← h6, ← h7, ← h8, ← h9]; rfl
  rw [e1]
  have HE := Lib.hid e1
  clear e1 h5'
  have hway : b1 = false ∨ (b1 = true ∧ b2 = false) ∨ (b1 = true ∧ b2 = true ∧ b3 = false) ∨ (b1 = true ∧ b2 = true ∧ b3 = true ∧ b4 = false) ∨ (b1 = true ∧ b2 = true ∧ b3 = true ∧ b4 = true ∧ b5 = false) ∨ (b1 = true ∧ b2 = true ∧ b3 = true ∧ b4 = true ∧ b5 = true ∧ b6 = false) ∨ (b1 = true ∧ b2 = true ∧ b3 = true ∧ b4 = true ∧ b5 = true ∧ b6 = true ∧ b7 = false) ∨ (b1 = true ∧ b2 = true ∧ b3 = true ∧ b4 = true ∧ b5 = true ∧ b6 = true ∧ b7 = true ∧ b8 = false) ∨ (b1 = true ∧ b2 = true ∧ b3 = true ∧ b4 = true ∧ b5 = true ∧ b6 = true ∧ b7 = true ∧ b8 = true) := by
    cases b1 <;> cases b2 <;> cases b3 <;> cases b4 <;> cases b5 <;> cases b6 <;> cases b7 <;> cases b8 <;> simp
  rcases hway with rfl | ⟨rfl, rfl⟩ | ⟨rfl, rfl, rfl⟩ | ⟨rfl, rfl, rfl, rfl⟩ | ⟨rfl, rfl, rfl, rfl, rfl⟩ | ⟨rfl, rfl, rfl, rfl, rfl, rfl⟩ | ⟨rfl, rfl, rfl, rfl, rfl, rfl, rfl⟩ | ⟨rfl, rfl, rfl, rfl, rfl, rfl, rfl, rfl⟩ | ⟨rfl, rfl, rfl, rfl, rfl, rfl, rfl, rfl⟩
  all_goals
    go_enter Try.func61, Try.ntmps61
    go_wp2_with (refine wpList_box_abs rfl 68 _ rfl (eagg x) rfl ?_; intro W0 hrow0 hb0 hs0; have HB0 := Lib.hid hb0; obtain ⟨c0, c1, c3, c4, c5⟩ := erow_cells hx hrow0; clear hrow0 hb0)
    go_ret
    exact ⟨by simp, HB0.out⟩

set_option maxRecDepth 100000 in
set_option maxHeartbeats 2000000 in
theorem refIdBytes (d : List UInt8) (hd : d.length = 32) (w : World) :
    Calls Try.prog 125 #[.agg (d.map bv).toArray] w fun e w' => ∃ a c, e = .returned (.slice a 32 c) ∧ w'.ownsRow w.heap.size 5 1 (.slice a 32 c) 32 (d.map bv) ∧ Below w.heap.size w w' := by
  obtain ⟨i0, hi, hz0, hz1, hz2⟩ := info_parts infoU8
  have HD := Lib.hid hd
  go_enter Try.func125, Try.ntmps125
  go_wp2_with (refine wpList_box_abs rfl 56 _ rfl (d.map bv).toArray rfl ?_; intro W0 hrow0 hb0 hs0; have HROW := Lib.hid hrow0; have HB0 := Lib.hid hb0; clear hrow0 hb0)
  go_loopw [3, 4] (fun ov iv wr => ∃ (j : Nat) (a : Option Addr) (c : Nat), j ≤ 32 ∧ iv = .int .i64 j ∧ ov = .slice a j c ∧ wr.ownsRow (w.heap.size + 1) 5 1 (.slice a j c) j ((d.take j).map bv) ∧ Below (w.heap.size + 1) W0 wr)
    (fun _ iv _ => 32 - (intOf iv).toNat)
  case atStart => exact ⟨0, none, 0, by omega, rfl, rfl, ⟨rfl, .inl ⟨rfl, rfl⟩⟩, Below.refl _ _⟩
  case round =>
    obtain ⟨j, a, c, hj, rfl, rfl, hown, hbel⟩ := hrel
    have hsz := hbel.size
    by_cases hlt : j < 32
    · obtain ⟨x, hx⟩ : ∃ x, x = d.getD j 0 := ⟨_, rfl⟩
      have hcx : wr.cell? ⟨w.heap.size, j, none⟩ = some (.int .u8 (x.toNat : Int)) := by
        rw [hbel.cell (p := ⟨w.heap.size, j, none⟩) (by show w.heap.size < _; omega), cell_of_row _ _ _ _ _ _ HROW.out, List.getElem?_toArray, getD_map_bv d j (by omega), hx]
      have hsn := take_snocB d j (by omega)
      rw [← hx] at hsn
      have HSN := Lib.hid hsn
      have HB := Lib.hid hbel
      have HO := Lib.hid (hown.alloc (.cells #[.int .u8 (x.toNat : Int)] 5))
      have hk0 : (0 : Int) ≤ (j : Int) := by omega
      have hk1 : (j : Int) < 32 := by omega
      clear hx hsn hown hbel
      go_wp2_with (at_builtin; refine wpList_append_sl _ rfl _ _ 22 rfl (w.heap.size + 1) 5 i0 (.int .u8 0) 1 1 Try.underlying22 hi hz0 hz1 hz2 rfl (by decide) _ _ _ rfl HO.out (wr.heap.size + 1) (some ⟨wr.heap.size, 0, none⟩) 1 1 [.int .u8 (x.toNat : Int)] rfl (slAt_one wr _ _) (one_oneCell rfl) ?c1 ?c2 ?c3 ?_)
      case c1 => unfold maxLen; omega
      case c2 => omega
      case c3 => simp; omega
      intro a' c' w6 hown6 hgrow6 hat6
      have hfin : Below (w.heap.size + 1) W0 w6 := (HB.out.alloc (by omega) _).grown hgrow6 (by simp; omega) (fun k hk => (own_lt HO.out hk).1)
      have hrow : w6.ownsRow (w.heap.size + 1) 5 1 (.slice a' (j + 1) c') (j + 1) ((d.take (j + 1)).map bv) := by
        rw [HSN.out]
        simpa using hown6
      have HF := Lib.hid hfin
      have HR := Lib.hid hrow
      clear hfin hrow hown6 hgrow6 hat6
      go_wp2
      go_roundw
      case rel => exact ⟨j + 1, a', c', by omega, by go_num, rfl, HR.out, HF.out⟩
      case measure => simp [intOf]; omega
    · have hj32 : j = 32 := by omega
      subst hj32
      rw [List.take_of_length_le (by omega)] at hown
      have HO := Lib.hid hown
      have HB := Lib.hid hbel
      clear hown hbel
      go_wp2
      go_ret
      exact ⟨a, c, rfl, World.ownsRow.mono HO.out (by omega), HB0.out.trans (HB.out.mono (by omega))⟩
end Go.Proofs.Ytogcnfhmcpkdcaa
