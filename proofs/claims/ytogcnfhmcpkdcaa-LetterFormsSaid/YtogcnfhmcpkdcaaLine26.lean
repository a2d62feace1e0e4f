/-
  Contract of layer 17's 'great': is there more than is looked at?
-/
import Derived.Test.YtogcnfhmcpkdcaaLine1
import Derived.Test.YtogcnfhmcpkdcaaOpenActs
namespace Go.Proofs.Ytogcnfhmcpkdcaa
open Go.RowKit
set_option linter.unusedVariables false
set_option linter.unusedSimpArgs false

def longItems (ms : List MItem) : Bool := (ms.take 10).any fun m => decide (60 < m.b.length)
def longAct (x : MAct) : Bool := longItems x.ms || decide (10 < x.ms.length)
def greatA (l : List MAct) : Bool := (l.take 40).any longAct || decide (40 < l.length)

theorem greatA_no {l : List MAct} (h : greatA l = false) : l.length ≤ 40 ∧ ∀ x ∈ l, x.ms.length ≤ 10 ∧ ∀ m ∈ x.ms, m.b.length ≤ 60 := by
  simp only [greatA, Bool.or_eq_false_iff, decide_eq_false_iff_not, List.any_eq_false] at h
  obtain ⟨h1, h2⟩ := h
  refine ⟨by omega, fun x hx => ?_⟩
  rw [List.take_of_length_le (by omega)] at h1
  have h3 := h1 x hx
  simp only [longAct, longItems, Bool.or_eq_true, not_or, Bool.not_eq_true, decide_eq_false_iff_not, List.any_eq_false] at h3
  obtain ⟨h4, h5⟩ := h3
  refine ⟨by omega, fun m hm => ?_⟩
  rw [List.take_of_length_le (by omega)] at h4
  have := h4 m hm
  simp at this
  exact this

theorem mem_take_at {α : Type} {l : List α} {i n : Nat} {x : α} (hx : l[i]? = some x) (hi : i < n) : x ∈ l.take n :=
  List.mem_of_getElem? (i := i) (by rw [List.getElem?_take, if_pos hi]; exact hx)
theorem any_take_succ {α : Type} {l : List α} {p : α → Bool} {k : Nat} {x : α} (hx : l[k]? = some x) : (l.take (k + 1)).any p = ((l.take k).any p || p x) := by
  have hl : k < l.length := (List.getElem?_eq_some_iff.1 hx).1
  have e : l[k] = x := by simpa [List.getElem?_eq_getElem hl] using hx
  rw [List.take_succ_eq_append_getElem hl, e, List.any_append]
  simp

set_option maxRecDepth 100000 in
set_option maxHeartbeats 1000000 in
theorem l17great (l : List MAct) (a : Option Addr) (c : Nat) (w : World) (h : SlAt w w.heap.size 4 a l.length c (cellsA l)) (hx : ∀ x ∈ l, x.Is w w.heap.size) :
    Calls Try.prog 52 #[.slice a l.length c] w fun e w' => e = .returned (.bool (greatA l)) ∧ w = w' := by
  obtain ⟨G, hG⟩ : ∃ G, greatA l = G := ⟨_, rfl⟩
  rw [hG]
  have HG := Lib.hid hG
  have H := Lib.hid h
  have HX := Lib.hid hx
  have hmax := h.hmax
  have hle := h.hle
  unfold maxLen at hmax
  clear hG h hx
  go_enter Try.func52, Try.ntmps52
  go_wp2_with fail
  go_loopw [3] (fun iv wr => ∃ i : Nat, iv = .int .i64 i ∧ i ≤ l.length ∧ i ≤ 40 ∧ (l.take i).any longAct = false ∧ wr = w) (fun iv _ => 40 - (intOf iv).toNat)
  case atStart => exact ⟨0, rfl, by omega, by omega, rfl, rfl⟩
  case round =>
    obtain ⟨i, rfl, hi, hi4, hany, rfl⟩ := hrel
    have HA := Lib.hid hany
    clear hany
    by_cases hil : i < l.length
    · have t1 : decide (i < l.length) = true := by simpa using hil
      by_cases hi40 : i < 40
      · have t2 : decide ((i : Int) < 40) = true := by simp; omega
        obtain ⟨x, hxi⟩ : ∃ x, l[i]? = some x := ⟨_, List.getElem?_eq_getElem hil⟩
        have HXI := Lib.hid hxi
        obtain ⟨b, o, rfl, hb, hc⟩ := H.out.hat (by have := cellsA_len l; omega)
        have hcl := cellsA_len l
        obtain ⟨-, -, -, e3⟩ := cellsA_at l i x hxi
        have c3 : wr.cell? ⟨b, o + i * 4 + 3, none⟩ = some (.slice x.a x.ms.length x.c) := by
          rw [Nat.add_assoc, hc _ (by omega)]; exact e3
        have C3 := Lib.hid c3
        have hi0 : (0 : Int) ≤ (i : Int) := by omega
        have hi1 : (i : Int) < (l.length : Int) := by omega
        have HXS := Lib.hid (HX.out x (List.mem_of_getElem? hxi))
        clear hc hcl e3 hxi
        have hxl := HXS.out.sl.hle
        have hxm := HXS.out.sl.hmax
        unfold maxLen at hxm
        have HGL := Lib.hid (show longAct x = true → G = true from fun h9 => by
          rw [← HG.out, greatA]
          have h8 : ((l.take 40).any longAct) = true := List.any_eq_true.2 ⟨x, mem_take_at HXI.out (by omega), h9⟩
          rw [h8]; rfl)
        have HAN := Lib.hid (show longAct x = false → (l.take (i + 1)).any longAct = false from fun h9 => by rw [any_take_succ HXI.out, HA.out, h9]; rfl)
        go_wp2_with fail
        clear c3
        obtain ⟨w2, rfl⟩ : ∃ w2 : World, w2 = wr := ⟨_, rfl⟩
        go_loopw [4] (fun jv wr => ∃ j : Nat, jv = .int .i64 j ∧ j ≤ x.ms.length ∧ j ≤ 10 ∧ (x.ms.take j).any (fun m => decide (60 < m.b.length)) = false ∧ wr = w2) (fun jv _ => 10 - (intOf jv).toNat)
        case atStart => exact ⟨0, rfl, by omega, by omega, rfl, rfl⟩
        case round =>
          obtain ⟨j, rfl, hj, hj1, hanj, rfl⟩ := hrel
          have HJ := Lib.hid hanj
          have c3 := C3.out
          clear hanj
          by_cases hjl : j < x.ms.length
          · have u1 : decide (j < x.ms.length) = true := by simpa using hjl
            by_cases hj10 : j < 10
            · have u2 : decide ((j : Int) < 10) = true := by simp; omega
              obtain ⟨m, hm⟩ : ∃ m, x.ms[j]? = some m := ⟨_, List.getElem?_eq_getElem hjl⟩
              have HM := Lib.hid hm
              obtain ⟨b2, o2, ea, hb2, hc2⟩ := HXS.out.sl.hat (by have := cellsM_len x.ms; omega)
              have hcl := cellsM_len x.ms
              obtain ⟨-, e1⟩ := cellsM_at x.ms j m hm
              have hmn := (HXS.out.its m (List.mem_of_getElem? hm)).ln
              rw [hmn] at e1
              have d1 : wr.cell? ⟨b2, o2 + j * 2 + 1, none⟩ = some (.slice m.a m.b.length m.c) := by
                rw [Nat.add_assoc, hc2 _ (by omega)]; exact e1
              have hj0 : (0 : Int) ≤ (j : Int) := by omega
              have hj1 : (j : Int) < (x.ms.length : Int) := by omega
              rw [ea] at c3
              clear hc2 hcl e1 hm ea hmn
              by_cases hlong : 60 < m.b.length
              · have u3 : decide ((60 : Int) < (m.b.length : Int)) = true := by simp; omega
                have hg : G = true := HGL.out (by
                  have h8 : longItems x.ms = true := List.any_eq_true.2 ⟨m, mem_take_at HM.out (by omega), by simpa using hlong⟩
                  rw [longAct, h8]; rfl)
                subst hg
                clear hlong
                go_wp2
                (try rw [Exit.noGoto_ret])
                go_ret
                exact ⟨rfl, rfl⟩
              · have u3 : decide ((60 : Int) < (m.b.length : Int)) = false := by simp; omega
                have HJN := Lib.hid (show (x.ms.take (j + 1)).any (fun m => decide (60 < m.b.length)) = false from by rw [any_take_succ HM.out, HJ.out]; simpa using hlong)
                clear hlong
                go_wp2
                go_roundw
                case rel => exact ⟨j + 1, by go_num, by omega, by omega, HJN.out, by first | rfl | trivial⟩
                case measure => simp [intOf]; omega
            · have u2 : decide ((j : Int) < 10) = false := by simp; omega
              have hje : j = 10 := by omega
              subst hje
              have hli : longItems x.ms = false := by
                have h9 := HJ.out
                unfold longItems
                exact h9
              by_cases hten : 10 < x.ms.length
              · have u4 : decide ((10 : Int) < (x.ms.length : Int)) = true := by simp; omega
                have hg : G = true := HGL.out (by rw [longAct]; simp [hten])
                subst hg
                clear hten
                go_wp2
                (try rw [Exit.noGoto_ret])
                go_ret
                exact ⟨rfl, rfl⟩
              · have u4 : decide ((10 : Int) < (x.ms.length : Int)) = false := by simp; omega
                have HN := Lib.hid (HAN.out (by rw [longAct, hli]; simpa using hten))
                clear hten
                go_wp2
                go_roundw
                case rel => exact ⟨i + 1, by go_num, by omega, by omega, HN.out, by first | rfl | trivial⟩
                case measure => simp [intOf]; omega
          · have u1 : decide (j < x.ms.length) = false := by simpa using hjl
            have hli : longItems x.ms = false := by
              have h9 := HJ.out
              unfold longItems
              rw [show j = x.ms.length by omega, List.take_length] at h9
              rw [List.take_of_length_le (by omega)]
              exact h9
            by_cases hten : 10 < x.ms.length
            · have u4 : decide ((10 : Int) < (x.ms.length : Int)) = true := by simp; omega
              have hg : G = true := HGL.out (by rw [longAct]; simp [hten])
              subst hg
              clear hten
              go_wp2
              (try rw [Exit.noGoto_ret])
              go_ret
              exact ⟨rfl, rfl⟩
            · have u4 : decide ((10 : Int) < (x.ms.length : Int)) = false := by simp; omega
              have HN := Lib.hid (HAN.out (by rw [longAct, hli]; simpa using hten))
              clear hten
              go_wp2
              go_roundw
              case rel => exact ⟨i + 1, by go_num, by omega, by omega, HN.out, by first | rfl | trivial⟩
              case measure => simp [intOf]; omega
      · have t2 : decide ((i : Int) < 40) = false := by simp; omega
        have hg : G = true := by
          rw [← HG.out, greatA]
          simp; omega
        subst hg
        have t3 : decide ((40 : Int) < (l.length : Int)) = true := by simp; omega
        go_wp2
        go_ret
        exact ⟨rfl, rfl⟩
    · have t1 : decide (i < l.length) = false := by simpa using hil
      have hie : i = l.length := by omega
      subst hie
      have hg : G = false := by
        have h9 := HA.out
        rw [← HG.out, greatA, List.take_of_length_le (by omega)]
        rw [List.take_of_length_le (by omega)] at h9
        rw [h9]
        simp; omega
      subst hg
      have t3 : decide ((40 : Int) < (l.length : Int)) = false := by simp; omega
      go_wp2
      go_ret
      exact ⟨rfl, rfl⟩
end Go.Proofs.Ytogcnfhmcpkdcaa
