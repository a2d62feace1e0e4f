/-
  Contract of the reference's Great: is there more of a letter than is looked at?
-/
import Derived.Test.YtogcnfhmcpkdcaaLetLaw
import Derived.Test.YtogcnfhmcpkdcaaLine26
namespace Go.Proofs.Ytogcnfhmcpkdcaa
open Go.RowKit
set_option linter.unusedVariables false
set_option linter.unusedSimpArgs false

def greatL (ms : List MItem) (n : Nat) : Bool := ((ms.take 20).any fun m => decide (200 < m.b.length)) || (decide (20 < ms.length) || decide (300 < n))
theorem greatL_no {ms : List MItem} {n : Nat} (h : greatL ms n = false) : ms.length ≤ 20 ∧ n ≤ 300 ∧ ∀ m ∈ ms, m.b.length ≤ 200 := by
  simp only [greatL, Bool.or_eq_false_iff, decide_eq_false_iff_not, List.any_eq_false] at h
  obtain ⟨h1, h2, h3⟩ := h
  refine ⟨by omega, by omega, fun m hm => ?_⟩
  rw [List.take_of_length_le (by omega)] at h1
  have := h1 m hm
  simp at this
  exact this

set_option maxRecDepth 100000 in
set_option maxHeartbeats 1000000 in
theorem r15Great (x : PLet) (ia : Option Addr) (ic : Nat) (ms : List MItem) (ba : Option Addr) (bc : Nat) (w : World) (h : SlAt w w.heap.size 2 ia ms.length ic (cellsM ms)) (hr : ∀ m ∈ ms, ItRd w w.heap.size m) :
    Calls Try.prog 69 #[.agg (lcell x ia ms.length ic ba bc)] w fun e w' => e = .returned (.bool (greatL ms x.b.length)) ∧ Below w.heap.size w w' := by
  obtain ⟨W1, hW1⟩ : ∃ W1, W1 = w.alloc (.cells (lcell x ia ms.length ic ba bc) 111) := ⟨_, rfl⟩
  have HW1 := Lib.hid hW1
  have hb1 : Below w.heap.size w W1 := by rw [hW1]; exact (Below.refl _ _).alloc (Nat.le_refl _) _
  have HR0 := Lib.hid (show W1.heap[w.heap.size]? = some (.cells (lcell x ia ms.length ic ba bc) 111 (0, 0)) by rw [hW1]; exact heap_alloc_new w _)
  have HB1 := Lib.hid hb1
  have H := Lib.hid (h.below hb1 (Nat.le_refl _))
  have HX := Lib.hid hr
  have hmax := h.hmax
  have hle := h.hle
  unfold maxLen at hmax
  obtain ⟨G, hG⟩ : ∃ G, greatL ms x.b.length = G := ⟨_, rfl⟩
  rw [hG]
  have HG := Lib.hid hG
  clear hW1 hb1 h hr hG
  go_enter Try.func69, Try.ntmps69
  go_wp2_with fail
  rw [← HW1.out]
  go_loopw [3] (fun iv wr => ∃ i : Nat, iv = .int .i64 i ∧ i ≤ ms.length ∧ i ≤ 20 ∧ ((ms.take i).any fun m => decide (200 < m.b.length)) = false ∧ wr = W1) (fun iv _ => 20 - (intOf iv).toNat)
  case atStart => exact ⟨0, rfl, by omega, by omega, rfl, rfl⟩
  case round =>
    obtain ⟨i, rfl, hi, hi2, hany, rfl⟩ := hrel
    have HA := Lib.hid hany
    obtain ⟨c0, c1, c2, c3, c4, c5, c6, c7⟩ := letCells HR0.out
    clear hany c0 c1 c2 c3 c4 c5
    by_cases hil : i < ms.length
    · have t1 : decide (i < ms.length) = true := by simpa using hil
      by_cases hi20 : i < 20
      · have t2 : decide ((i : Int) < 20) = true := by simp; omega
        obtain ⟨m, hm⟩ : ∃ m, ms[i]? = some m := ⟨_, List.getElem?_eq_getElem hil⟩
        have HM := Lib.hid hm
        obtain ⟨b, o, rfl, hb, hc⟩ := H.out.hat (by have := cellsM_len ms; omega)
        have hcl := cellsM_len ms
        obtain ⟨-, e1⟩ := cellsM_at ms i m hm
        rw [(HX.out m (List.mem_of_getElem? hm)).ln] at e1
        have k1 : wr.cell? ⟨b, o + i * 2 + 1, none⟩ = some (.slice m.a m.b.length m.c) := by rw [Nat.add_assoc, hc _ (by omega)]; exact e1
        have hi0 : (0 : Int) ≤ (i : Int) := by omega
        have hi1 : (i : Int) < (ms.length : Int) := by omega
        clear hc hcl e1 hm
        by_cases hlong : 200 < m.b.length
        · have t3 : decide ((200 : Int) < (m.b.length : Int)) = true := by simp; omega
          have hg : G = true := by
            rw [← HG.out, greatL]
            have h8 : ((ms.take 20).any fun m => decide (200 < m.b.length)) = true := List.any_eq_true.2 ⟨m, mem_take_at HM.out (by omega), by simpa using hlong⟩
            rw [h8]; rfl
          subst hg
          clear hlong
          go_wp2
          (try rw [Exit.noGoto_ret])
          go_ret
          exact ⟨rfl, HB1.out⟩
        · have t3 : decide ((200 : Int) < (m.b.length : Int)) = false := by simp; omega
          have HN := Lib.hid (show ((ms.take (i + 1)).any fun m => decide (200 < m.b.length)) = false from by rw [any_take_succ HM.out, HA.out]; simpa using hlong)
          clear hlong
          go_wp2
          go_roundw
          case rel => exact ⟨i + 1, by go_num, by omega, by omega, HN.out, by first | rfl | trivial⟩
          case measure => simp [intOf]; omega
      · have t2 : decide ((i : Int) < 20) = false := by simp; omega
        have hie : i = 20 := by omega
        have hg : G = true := by rw [← HG.out, greatL]; simp; omega
        have t4 : decide ((20 : Int) < (ms.length : Int)) = true := by simp; omega
        subst hg
        go_wp2
        (try rw [Exit.noGoto_ret])
        go_ret
        exact ⟨rfl, HB1.out⟩
    · have t1 : decide (i < ms.length) = false := by simpa using hil
      have hie : i = ms.length := by omega
      have hal : ((ms.take 20).any fun m => decide (200 < m.b.length)) = false := by
        have h9 := HA.out
        rw [hie, List.take_of_length_le (Nat.le_refl _)] at h9
        rw [List.take_of_length_le (by omega)]
        exact h9
      have t4 : decide ((20 : Int) < (ms.length : Int)) = false := by simp; omega
      by_cases hbl : 300 < x.b.length
      · have t5 : decide ((300 : Int) < (x.b.length : Int)) = true := by simp; omega
        have hg : G = true := by rw [← HG.out, greatL]; simp; omega
        subst hg
        clear hie hal hbl
        go_wp2
        (try rw [Exit.noGoto_ret])
        go_ret
        exact ⟨rfl, HB1.out⟩
      · have t5 : decide ((300 : Int) < (x.b.length : Int)) = false := by simp; omega
        have hg : G = false := by
          rw [← HG.out, greatL, hal]
          simp; omega
        subst hg
        clear hie hal hbl
        go_wp2
        (try rw [Exit.noGoto_ret])
        go_ret
        exact ⟨rfl, HB1.out⟩
end Go.Proofs.Ytogcnfhmcpkdcaa
