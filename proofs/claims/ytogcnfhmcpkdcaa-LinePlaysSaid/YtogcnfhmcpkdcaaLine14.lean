/-
  Contract of the reference's From of a line.
-/
import Derived.Test.YtogcnfhmcpkdcaaLine13
import Derived.Test.YtogcnfhmcpkdcaaFromLaw
namespace Go.Proofs.Ytogcnfhmcpkdcaa
open Go.RowKit
set_option linter.unusedVariables false
set_option linter.unusedSimpArgs false

set_option maxRecDepth 100000 in
set_option maxHeartbeats 1000000 in
theorem r17From (x : PLine) (hg : x.Good) (ra : Option Addr) (rc : Nat) (ms : List MItem) (i most : Int) (w : World) (h : RAt w w.heap.size x ra rc ms) :
    Calls Try.prog 57 #[rv x ra ms.length rc, .int .i64 i, .int .i64 most] w fun e w' => ∃ a' c' ms', e = .returned (.slice a' ms'.length c') ∧ w'.ownsRow w.heap.size 45 2 (.slice a' ms'.length c') ms'.length (cellsM ms') ∧ ItemsAt w' w'.heap.size a' ms'.length c' ms' ∧ ms'.map MItem.it = x.from_ i most ∧ Below w.heap.size w w' := by
  obtain ⟨i0, hi, hz0, hz1, hz2⟩ := info_parts infoItem3
  have hl := h.len
  have h1 := hg.b0
  have h2 := hg.b1
  have h3 := hg.n1
  have hn4 : (ms.length : Int) ≤ 4096 := by omega
  have hbb := (Below.refl _ w).alloc (Nat.le_refl w.heap.size) (.cells #[.int .i64 x.base, .int .i64 x.term, .slice ra ms.length rc] 88)
  have HB := Lib.hid hbb
  have H := Lib.hid h
  have HLEN := Lib.hid hl
  obtain ⟨L, hL⟩ : ∃ L, L = x.last := ⟨_, rfl⟩
  have HL := Lib.hid hL
  have HLL := Lib.hid (show x.last = x.base + (ms.length : Int) by rw [hl]; rfl)
  obtain ⟨W1, hW1⟩ : ∃ W1, W1 = w.alloc (.cells #[.int .i64 x.base, .int .i64 x.term, .slice ra ms.length rc] 88) := ⟨_, rfl⟩
  have hs1 : W1.heap.size = w.heap.size + 1 := by rw [hW1]; simp
  have hrow : W1.heap[w.heap.size]? = some (.cells #[.int .i64 x.base, .int .i64 x.term, .slice ra ms.length rc] 88 (0, 0)) := by rw [hW1]; exact heap_alloc_new w _
  rw [← hW1] at hbb
  have HW1 := Lib.hid hW1
  have HROW := Lib.hid hrow
  have HB1 := Lib.hid hbb
  clear h hl h3 hL hbb HB hW1 hrow
  go_enter Try.func57, Try.ntmps57
  go_wp2_with fail
  rw [← HW1.out]
  go_loopw [7, 8] (fun av kv wr => ∃ (k : Nat) (a : Option Addr) (c : Nat) (os : List MItem), av = .slice a os.length c ∧ kv = .int .i64 k ∧ k ≤ ms.length ∧ os = fromL ms x.base x.last i most k ∧ wr.ownsRow W1.heap.size 45 2 (.slice a os.length c) os.length (cellsM os) ∧ Below W1.heap.size W1 wr) (fun _ kv _ => ms.length - (intOf kv).toNat)
  case atStart => exact ⟨0, none, 0, [], rfl, rfl, by omega, (fromL_zero _ _ _ _ _).symm, ⟨rfl, .inl ⟨rfl, rfl⟩⟩, Below.refl _ _⟩
  case round =>
    obtain ⟨k, a, c, os, rfl, rfl, hk, hos, hown, hbel⟩ := hrel
    have HOS := Lib.hid hos
    have HOW := Lib.hid hown
    have HBE := Lib.hid hbel
    have hsz := hbel.size
    have hol : os.length ≤ k := by rw [hos]; exact fromL_le _ _ _ _ _ _
    have hrw : wr.heap[w.heap.size]? = some (.cells #[.int .i64 x.base, .int .i64 x.term, .slice ra ms.length rc] 88 (0, 0)) := (hbel.block _ (by omega)).trans HROW.out
    have d0 := cell_of_row wr w.heap.size 0 _ _ _ hrw
    have d1 := cell_of_row wr w.heap.size 1 _ _ _ hrw
    have d2 := cell_of_row wr w.heap.size 2 _ _ _ hrw
    simp at d0 d1 d2
    have d0 : wr.cell? ⟨w.heap.size, 0, none⟩ = some (.int .i64 x.base) := d0
    have d1 : wr.cell? ⟨w.heap.size, 1, none⟩ = some (.int .i64 x.term) := d1
    have d2 : wr.cell? ⟨w.heap.size, 2, none⟩ = some (.slice ra ms.length rc) := d2
    have HRW := Lib.hid hrw
    clear hos hown hbel hrw
    by_cases hend : k < ms.length ∧ (os.length : Int) < most
    · obtain ⟨hkl, hom⟩ := hend
      have t1 : decide (k < ms.length) = true := by simpa using hkl
      have t2 : decide ((os.length : Int) < most) = true := by simpa using hom
      have hkm : k + 1 ≤ ms.length := hkl
      by_cases q1 : x.base < i
      · have u1 : decide (x.base < i) = true := by simpa using q1
        by_cases q2 : i ≤ x.base + 1 + (k : Int)
        · have u2 : decide (i ≤ x.base + 1 + (k : Int)) = true := by simpa using q2
          have hwl : (wr.heap.size : Nat) = wr.heap.size := rfl
          by_cases q3 : i ≤ L
          · have u3 : decide (i ≤ L) = true := by simpa using q3
            obtain ⟨m, hm⟩ : ∃ m, ms[k]? = some m := ⟨_, List.getElem?_eq_getElem hkl⟩
            have HY := Lib.hid (fromL_yes hm q1 q2 (show i ≤ x.last by rw [← HL.out]; exact q3) (show ((fromL ms x.base x.last i most k).length : Int) < most by rw [← HOS.out]; exact hom))
            obtain ⟨b, o, rfl, hb, k0, k1⟩ := H.out.its.cell hm
            have hbb : Below w.heap.size w wr := HB1.out.trans (HBE.out.mono (by omega))
            have K0 := Lib.hid ((hbb.cell (p := ⟨b, o + k * 2, none⟩) hb).trans k0)
            have K1 := Lib.hid ((hbb.cell (p := ⟨b, o + (k * 2 + 1), none⟩) hb).trans k1)
            have hk0 : (0 : Int) ≤ (k : Int) := by omega
            have hk1 : (k : Int) < (ms.length : Int) := by omega
            clear k0 k1 hm hom q1 q2 q3 hbb
            go_wp2_with fail
            refine (r17Last x hg _ ms.length rc HLEN.out _).mono ?_
            rintro e w3 ⟨rfl, hb3⟩
            have hs3 := hb3.size
            have c0 : w3.cell? ⟨b, o + k * 2, none⟩ = some (.int .i64 m.t) := (hb3.cell (p := ⟨b, o + k * 2, none⟩) (by show b < _; omega)).trans K0.out
            have c1 : w3.cell? ⟨b, o + k * 2 + 1, none⟩ = some (.slice m.a m.n m.c) := (hb3.cell (p := ⟨b, o + (k * 2 + 1), none⟩) (by show b < _; omega)).trans K1.out
            have e2 : w3.cell? ⟨w.heap.size, 2, none⟩ = some (.slice (some ⟨b, o, none⟩) ms.length rc) := (hb3.cell (p := ⟨w.heap.size, 2, none⟩) (by show w.heap.size < _; omega)).trans d2
            have HB3 := Lib.hid hb3
            have HO3 := Lib.hid (own_below' HOW.out hb3)
            clear hb3 d0 d1 d2
            rw [← HL.out]
            go_wp2_with (at_builtin; go_must (refine wpList_append_sl _ rfl (.tmp 41) (.tmp 47) 49 rfl W1.heap.size 45 i0 (.agg #[.int .i64 0, .slice none 0 0]) 2 32 Try.underlying49 hi hz0 hz1 hz2 rfl (by decide) (.slice a os.length c) os.length _ rfl (HO3.out.alloc _) (w3.heap.size + 1) (some ⟨w3.heap.size, 0, none⟩) 1 1 [.int .i64 m.t, .slice m.a m.n m.c] rfl (slAt_item w3 #[.int .i64 m.t, .slice m.a m.n m.c] 45 2 rfl) (by intro u hu; simp at hu; rcases hu with rfl | rfl <;> rfl) (by unfold maxLen; omega) (by omega) (by simp; omega) ?_); intro a6 c6 w6 hown6 hgrow6 hat6)
            have HBN := Lib.hid (show Below W1.heap.size W1 w6 from ((HBE.out.trans (HB3.out.mono hsz)).alloc (by omega) _).grown hgrow6 (by simp; omega) (fun k hk => (own_lt HO3.out hk).1))
            have HON := Lib.hid (show w6.ownsRow W1.heap.size 45 2 (.slice a6 (os ++ [m]).length c6) (os ++ [m]).length (cellsM (os ++ [m])) from by
              rw [cellsM_append, show (os ++ [m]).length = os.length + 1 by simp]
              exact hown6)
            have hln : (os ++ [m]).length = os.length + 1 := by simp
            clear hown6 hgrow6 hat6 c0 c1 e2
            go_wp2
            rw [← hln]
            go_roundw
            case rel => exact ⟨k + 1, a6, c6, os ++ [m], rfl, by go_num, by omega, by rw [HY.out, ← HOS.out], HON.out, HBN.out⟩
            case measure => simp [intOf]; omega
          · have u3 : decide (i ≤ L) = false := by simpa using q3
            have HN := Lib.hid (fromL_no (l := ms) (base := x.base) (last := x.last) (i := i) (most := most) (k := k) (by rw [← HL.out]; omega))
            clear hkl hom q1 q2 q3
            go_wp2_with fail
            refine (r17Last x hg _ ms.length rc HLEN.out _).mono ?_
            rintro e w3 ⟨rfl, hb3⟩
            have hs3 := hb3.size
            have HO3 := Lib.hid (own_below' HOW.out hb3)
            have HBN := Lib.hid (HBE.out.trans (hb3.mono hsz))
            clear hb3 d0 d1 d2
            rw [← HL.out]
            go_wp2
            go_roundw
            case rel => exact ⟨k + 1, a, c, os, rfl, by go_num, by omega, by rw [HN.out]; exact HOS.out, HO3.out, HBN.out⟩
            case measure => simp [intOf]; omega
        · have u2 : decide (i ≤ x.base + 1 + (k : Int)) = false := by simpa using q2
          have HN := Lib.hid (fromL_no (l := ms) (base := x.base) (last := x.last) (i := i) (most := most) (k := k) (by omega))
          clear hkl hom
          go_wp2
          go_roundw
          case rel => exact ⟨k + 1, a, c, os, rfl, by go_num, by omega, by rw [HN.out]; exact HOS.out, HOW.out, HBE.out⟩
          case measure => simp [intOf]; omega
      · have u1 : decide (x.base < i) = false := by simpa using q1
        have HN := Lib.hid (fromL_no (l := ms) (base := x.base) (last := x.last) (i := i) (most := most) (k := k) (by omega))
        clear hkl hom
        go_wp2
        go_roundw
        case rel => exact ⟨k + 1, a, c, os, rfl, by go_num, by omega, by rw [HN.out]; exact HOS.out, HOW.out, HBE.out⟩
        case measure => simp [intOf]; omega
    · have HE := Lib.hid (fromL_end (l := ms) (base := x.base) (last := x.last) (i := i) (most := most) (k := k) (by rw [← HOS.out]; omega))
      have HFIN := Lib.hid (show (fromL ms x.base x.last i most k).map MItem.it = x.from_ i most by
        rw [HE.out, PLine.from_]
        split
        · rfl
        · rw [List.map_take, List.map_drop, H.out.eq])
      have HITS := Lib.hid (show ItemsAt wr wr.heap.size a os.length c os from by
        obtain ⟨a', c', e, hs⟩ := SlAt.ofOwns HOW.out
        injection e with e1 _ e2
        subst e1 e2
        refine ⟨hs, fun m hm => ?_⟩
        rw [HOS.out] at hm
        exact ((H.out.its.bs m (fromL_sub hm)).below (HB1.out.trans (HBE.out.mono (by omega))) (Nat.le_refl _)).mono (by omega))
      have HBF := Lib.hid (HB1.out.trans (HBE.out.mono (by omega)))
      by_cases hkl : k < ms.length
      · have t1 : decide (k < ms.length) = true := by simpa using hkl
        have t2 : decide ((os.length : Int) < most) = false := by simp; omega
        clear hend
        go_wp2
        go_ret
        exact ⟨a, c, os, rfl, World.ownsRow.mono HOW.out (by omega), HITS.out, by rw [HOS.out]; exact HFIN.out, HBF.out⟩
      · have t1 : decide (k < ms.length) = false := by simpa using hkl
        clear hend
        go_wp2
        go_ret
        exact ⟨a, c, os, rfl, World.ownsRow.mono HOW.out (by omega), HITS.out, by rw [HOS.out]; exact HFIN.out, HBF.out⟩
end Go.Proofs.Ytogcnfhmcpkdcaa
