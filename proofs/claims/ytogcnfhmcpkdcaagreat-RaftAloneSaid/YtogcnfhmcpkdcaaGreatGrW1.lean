/-
  Walks of a group: what is read (term).
-/
import Derived.Test.YtogcnfhmcpkdcaaGreatGrM
import Derived.Test.YtogcnfhmcpkdcaaGreatRaftNA
namespace Go.Proofs.YtogcnfhmcpkdcaaGreat
open Go.RowKit
set_option linter.unusedVariables false
set_option linter.unusedSimpArgs false

section
variable {w w' : World} {B g c : Nat} {G : PGroup} {M : GMem}
/-- the cells of the group's own block -/
theorem GrAt.cl (h : GrAt w B g c G M) {i : Nat} (hi : i < 8) : w.cell? ⟨g, i, none⟩ = some (rowV G M i) := by
  rw [cell_of_row _ _ i _ _ _ h.row]
  have e : i = 0 ∨ i = 1 ∨ i = 2 ∨ i = 3 ∨ i = 4 ∨ i = 5 ∨ i = 6 ∨ i = 7 := by omega
  rcases e with rfl | rfl | rfl | rfl | rfl | rfl | rfl | rfl <;> rfl
theorem GrAt.cr (h : GrAt w B g c G M) : w.cell? ⟨g, 8, none⟩ = some (.bool G.right) := by
  rw [cell_of_row _ _ 8 _ _ _ h.row]; rfl
theorem GrAt.f (h : GrAt w B g c G M) (i : Nat) : w.frozen? ⟨g, i, none⟩ = false := frozen_of_row _ _ _ _ _ h.row
/-- a row that is not empty: its block, its cells -/
theorem GrAt.at_ (h : GrAt w B g c G M) {i : Nat} (hi : i < 8) {j : Nat} (hj : j < rowN G M i * rowZ i) : ∃ b, M.ra i = some ⟨b, 0, none⟩ ∧ w.cell? ⟨b, j, none⟩ = (rowX G M i)[j]? ∧ w.frozen? ⟨b, j, none⟩ = false ∧ b < w.heap.size := by
  have hp : 0 < rowN G M i := by
    rcases Nat.eq_zero_or_pos (rowN G M i) with h0 | h0
    · rw [h0] at hj; simp at hj
    · exact h0
  obtain ⟨b, cap, hv⟩ := rowForm h hi hp
  have h1 := h.rows i hi
  rw [hv] at h1
  refine ⟨b, ?_, h1.cellAt j hj, h1.frozenAt j, (own_lt h1 rfl).2⟩
  unfold rowV at hv
  injection hv with e1
/-- replica i: where it lies -/
theorem GrAt.ptr (h : GrAt w B g c G M) {i : Nat} {q : Nat × RMem} (hq : M.ps[i]? = some q) : ∃ b, M.ra 0 = some ⟨b, 0, none⟩ ∧ w.cell? ⟨b, i, none⟩ = some (.pointer (some ⟨q.1, 0, none⟩)) ∧ b < w.heap.size := by
  have hi := (List.getElem?_eq_some_iff.1 hq).1
  obtain ⟨b, h1, h2, _, h3⟩ := h.at_ (i := 0) (by omega) (j := i) (by show i < M.ps.length * 1; omega)
  refine ⟨b, h1, ?_, h3⟩
  rw [h2]
  show (M.ps.map ptrOf)[i]? = _
  rw [List.getElem?_map, hq]; rfl

def maxBt : List PRaft → Int → Int
  | [], t => t
  | R :: l, t => maxBt l (max t R.bt)
def PGroup.term (G : PGroup) : Int := maxBt G.rs 0
theorem maxBt_snoc (l : List PRaft) (R : PRaft) (t : Int) : maxBt (l ++ [R]) t = max (maxBt l t) R.bt := by
  induction l generalizing t with
  | nil => rfl
  | cons x l ih => exact ih _

set_option maxHeartbeats 1000000 in
theorem l18term (h : GrAt w B g c G M) (hn : M.ps.length ≤ 7) : Calls Tryz.prog 61 #[.pointer (some ⟨g, 0, none⟩)] w fun e w' => e = .returned (.int .i64 G.term) ∧ w' = w := by
  have c0 : w.cell? ⟨g, 0, none⟩ = some (.slice (M.ra 0) M.ps.length (M.rc 0)) := h.cl (i := 0) (by omega)
  have H := Lib.hid h
  clear h
  go_enter Tryz.func61, Tryz.ntmps61
  go_wp2_with fail
  obtain ⟨wo, hwo⟩ : ∃ wo : World, wo = w := ⟨_, rfl⟩
  go_loopw [3, 4] (fun tv iv wr => ∃ i : Nat, iv = .int .i64 i ∧ i ≤ M.ps.length ∧ tv = .int .i64 (maxBt (G.rs.take i) 0) ∧ wr = w) (fun _ iv _ => M.ps.length - (intOf iv).toNat)
  case atStart => exact ⟨0, rfl, by omega, rfl, rfl⟩
  case round =>
    obtain ⟨i, rfl, hi, rfl, rfl⟩ := hrel
    by_cases hil : i < M.ps.length
    · have t1 : decide ((i : Int) < (M.ps.length : Int)) = true := decide_eq_true (by omega)
      have t1n : decide (i < M.ps.length) = true := decide_eq_true hil
      obtain ⟨q, hq⟩ : ∃ q, M.ps[i]? = some q := ⟨_, List.getElem?_eq_getElem hil⟩
      obtain ⟨R, hR⟩ : ∃ R, G.rs[i]? = some R := ⟨_, List.getElem?_eq_getElem (by rw [← H.out.rl]; exact hil)⟩
      obtain ⟨b, hb1, hb2, hb3⟩ := H.out.ptr hq
      rw [hb1] at c0
      have hi0 : (0 : Int) ≤ (i : Int) := by omega
      have hi1 : (i : Int) < (M.ps.length : Int) := by omega
      have HRF := Lib.hid (H.out.rf i R q hR hq)
      have HNX := Lib.hid (show maxBt (G.rs.take (i + 1)) 0 = max (maxBt (G.rs.take i) 0) R.bt by
        rw [List.take_add_one, hR]; exact maxBt_snoc _ _ _)
      clear hq hR hb1
      go_wp2_with fail
      refine (raftTerm HRF.out).mono ?_
      rintro e w2 ⟨rfl, rfl⟩
      go_wp2
      go_roundw
      case rel => exact ⟨i + 1, by go_num, by omega, by rw [HNX.out], by first | rfl | trivial⟩
      case measure => simp [intOf]; omega
    · have t1 : decide ((i : Int) < (M.ps.length : Int)) = false := decide_eq_false (by omega)
      have t1n : decide (i < M.ps.length) = false := decide_eq_false hil
      have HE := Lib.hid (show maxBt (G.rs.take i) 0 = G.term by rw [List.take_of_length_le (by rw [← H.out.rl]; omega)]; rfl)
      go_wp2
      go_ret
      rw [HE.out]
      exact ⟨rfl, rfl⟩
end
end Go.Proofs.YtogcnfhmcpkdcaaGreat
