/-
  Contracts of the reference's Right, fits, Last, At of a line.
  The plain law of the reference's From: a loop over all items. No program in sight.
  Contract of the reference's From of a line.
  Contract of the reference's Drop of a line.
-/
import Derived.Test.YtogcnfhmcpkdcaaLineM9
import Derived.Test.YtogcnfhmcpkdcaaLineLaw
namespace Go.Proofs.Ytogcnfhmcpkdcaa
open Go.RowKit
set_option linter.unusedVariables false
set_option linter.unusedSimpArgs false

/-- the reference's line in memory -/
structure RAt (w : World) (B : Nat) (x : PLine) (a : Option Addr) (c : Nat) (ms : List MItem) : Prop where
  its : ItemsAt w B a ms.length c ms
  eq : ms.map MItem.it = x.l
abbrev rv (x : PLine) (a : Option Addr) (n c : Nat) : Value := .agg #[.int .i64 x.base, .int .i64 x.term, .slice a n c]

theorem RAt.len {w : World} {B : Nat} {x : PLine} {a : Option Addr} {c : Nat} {ms : List MItem} (h : RAt w B x a c ms) : ms.length = x.l.length := by rw [← h.eq]; simp
theorem RAt.below {w w' : World} {B B' : Nat} {x : PLine} {a : Option Addr} {c : Nat} {ms : List MItem} (h : RAt w B x a c ms) (hb : Below B' w w') (hB : B ≤ B') : RAt w' B x a c ms := ⟨h.its.below hb hB, h.eq⟩
theorem RAt.mono {w : World} {B B' : Nat} {x : PLine} {a : Option Addr} {c : Nat} {ms : List MItem} (h : RAt w B x a c ms) (hB : B ≤ B') : RAt w B' x a c ms := ⟨h.its.mono hB, h.eq⟩

theorem r17Right (t : Int) (a : Option Addr) (c : Nat) (b : List UInt8) (w : World) :
    Calls Try.prog 118 #[.agg #[.int .i64 t, .slice a b.length c]] w fun e w' => e = .returned (.bool (rightI (t, b))) ∧ Below w.heap.size w w' := by
  obtain ⟨x, h1⟩ : ∃ x : Bool, decide (0 ≤ t) = x := ⟨_, rfl⟩
  obtain ⟨z, h3⟩ : ∃ z : Bool, decide (t ≤ 1099511627776) = z := ⟨_, rfl⟩
  obtain ⟨y, h2⟩ : ∃ y : Bool, decide ((b.length : Int) ≤ 8192) = y := ⟨_, rfl⟩
  have h2' : decide (b.length ≤ 8192) = y := by rw [← h2, Bool.eq_iff_iff]; simp; omega
  have e1 : rightI (t, b) = (x && (z && y)) := by rw [← h1, ← h2', ← h3]; rfl
  rw [e1]
  have HE := Lib.hid e1
  have HB := Lib.hid ((Below.refl _ w).alloc (Nat.le_refl _) (.cells #[.int .i64 t, .slice a b.length c] 45))
  clear e1
  cases x <;> cases z <;> cases y
  all_goals
    go_enter Try.func118, Try.ntmps118
    go_wp2
    go_ret
    exact ⟨rfl, HB.out⟩

theorem r17Fits (x : PLine) (hx0 : 0 ≤ x.base) (hx1 : x.base ≤ 1099511627776) (a : Option Addr) (m c : Nat) (n : Int) (w : World) :
    Calls Try.prog 119 #[rv x a m c, .int .i64 n] w fun e w' => e = .returned (.bool (fitsB x n)) ∧ Below w.heap.size w w' := by
  obtain ⟨y, h1⟩ : ∃ y : Bool, decide (n ≤ 4096) = y := ⟨_, rfl⟩
  obtain ⟨z, h2⟩ : ∃ z : Bool, decide (n ≤ 1099511627776 - x.base) = z := ⟨_, rfl⟩
  have e1 : fitsB x n = (y && z) := by rw [← h1, ← h2]; rfl
  rw [e1]
  have HE := Lib.hid e1
  have HB := Lib.hid ((Below.refl _ w).alloc (Nat.le_refl _) (.cells #[.int .i64 x.base, .int .i64 x.term, .slice a m c] 88))
  clear e1
  cases y <;> cases z
  all_goals
    go_enter Try.func119, Try.ntmps119
    go_wp2
    go_ret
    exact ⟨rfl, HB.out⟩

theorem r17Last (x : PLine) (hg : x.Good) (a : Option Addr) (m c : Nat) (hm : m = x.l.length) (w : World) :
    Calls Try.prog 120 #[rv x a m c] w fun e w' => e = .returned (.int .i64 x.last) ∧ Below w.heap.size w w' := by
  obtain ⟨L, hL⟩ : ∃ L, L = x.last := ⟨_, rfl⟩
  have hL2 : x.base + (m : Int) = L := by rw [hL, PLine.last, hm]
  rw [← hL]
  have h1 := hg.b0
  have h2 := hg.b1
  have h3 := hg.n1
  have hn4 : (m : Int) ≤ 4096 := by omega
  have HL := Lib.hid hL2
  have HB := Lib.hid ((Below.refl _ w).alloc (Nat.le_refl _) (.cells #[.int .i64 x.base, .int .i64 x.term, .slice a m c] 88))
  clear hL hm h3 hL2
  go_enter Try.func120, Try.ntmps120
  go_wp2
  go_ret
  exact ⟨ret_int HL.out, HB.out⟩

set_option maxHeartbeats 1000000 in
theorem r17At (x : PLine) (hg : x.Good) (a : Option Addr) (c : Nat) (ms : List MItem) (i : Int) (w : World) (h : RAt w w.heap.size x a c ms) :
    Calls Try.prog 121 #[rv x a ms.length c, .int .i64 i] w fun e w' => e = .returned (.int .i64 (x.tm i)) ∧ Below w.heap.size w w' := by
  have hl := h.len
  have h1 := hg.b0
  have h2 := hg.b1
  have h3 := hg.n1
  have hlast : x.last = x.base + (x.l.length : Int) := rfl
  obtain ⟨L, hL⟩ : ∃ L, L = x.last := ⟨_, rfl⟩
  obtain ⟨R, hR⟩ : ∃ R, R = x.tm i := ⟨_, rfl⟩
  rw [← hR]
  have HR := Lib.hid hR
  have hbb := (Below.refl _ w).alloc (Nat.le_refl w.heap.size) (.cells #[.int .i64 x.base, .int .i64 x.term, .slice a ms.length c] 88)
  have HB := Lib.hid hbb
  by_cases e0 : i = x.base
  · have t0 : (i == x.base) = true := by simpa using e0
    have hr : R = x.term := by rw [hR, PLine.tm, if_pos e0]
    subst hr
    clear h hl hR hlast hL h3 e0 hbb
    go_enter Try.func121, Try.ntmps121
    go_wp2
    go_ret
    exact ⟨rfl, HB.out⟩
  · have t0 : (i == x.base) = false := by simpa using e0
    by_cases e1 : i < x.base
    · have hr : R = -1 := by rw [hR, PLine.tm, if_neg e0, if_pos (.inl e1)]
      subst hr
      clear h hl hR hlast hL h3 e0 hbb
      go_enter Try.func121, Try.ntmps121
      go_wp2
      go_ret
      exact ⟨rfl, HB.out⟩
    · by_cases e2 : L < i
      · have hr : R = -1 := by rw [hR, PLine.tm, if_neg e0, if_pos (.inr (by omega))]
        subst hr
        have HL := Lib.hid hL
        have hs := hbb.size
        have HLEN := Lib.hid hl
        clear h hl hR hlast hL h3 e0 hbb
        go_enter Try.func121, Try.ntmps121
        go_wp2_with fail
        refine (r17Last x hg a ms.length c HLEN.out _).mono ?_
        rintro e w1 ⟨rfl, hb1⟩
        have HB1 := Lib.hid (HB.out.trans (hb1.mono (by simp)))
        clear hb1
        rw [← HL.out]
        go_wp2
        go_ret
        exact ⟨rfl, HB1.out⟩
      · have hlt : (i - x.base - 1).toNat < ms.length := by omega
        obtain ⟨k, hk⟩ : ∃ k : Nat, i - x.base - 1 = k := ⟨(i - x.base - 1).toNat, by omega⟩
        have hkn : k < ms.length := by omega
        obtain ⟨mi, hmi⟩ : ∃ mi, ms[k]? = some mi := ⟨_, List.getElem?_eq_getElem hkn⟩
        obtain ⟨b, o, rfl, hb, k0, k1⟩ := h.its.cell hmi
        have hr : R = mi.t := by
          rw [hR]
          simp only [PLine.tm]
          rw [if_neg e0, if_neg (by omega), ← h.eq, hk]
          simp [List.getD, List.getElem?_map, hmi]
        subst hr
        have HL := Lib.hid hL
        have HLEN := Lib.hid hl
        have K0 := Lib.hid ((hbb.cell (p := ⟨b, o + k * 2, none⟩) hb).trans k0)
        have s1 : IntKind.i64.wrap (i - x.base) = i - x.base := IntWalk.i64_in _ (by omega)
        have wK : IntKind.i64.wrap (k : Int) = k := IntWalk.i64_in _ (by omega)
        have hi1 : (k : Int) < (ms.length : Int) := by omega
        have hi0 : (0 : Int) ≤ (k : Int) := by omega
        have hw1 : (w.alloc (.cells #[.int .i64 x.base, .int .i64 x.term, .slice (some ⟨b, o, none⟩) ms.length c] 88)).heap.size = w.heap.size + 1 := by simp
        have A0 := Lib.hid (cell_of_row (w.alloc (.cells #[.int .i64 x.base, .int .i64 x.term, .slice (some ⟨b, o, none⟩) ms.length c] 88)) w.heap.size 0 _ _ _ (heap_alloc_new w _))
        have A2 := Lib.hid (cell_of_row (w.alloc (.cells #[.int .i64 x.base, .int .i64 x.term, .slice (some ⟨b, o, none⟩) ms.length c] 88)) w.heap.size 2 _ _ _ (heap_alloc_new w _))
        clear h hl hR hlast hL h3 e0 hbb hmi k0 k1 hlt
        go_enter Try.func121, Try.ntmps121
        go_wp2_with fail
        refine (r17Last x hg _ ms.length c HLEN.out _).mono ?_
        rintro e w1 ⟨rfl, hb1⟩
        have hs1 := hb1.size
        rw [hw1] at hs1
        have HB1 := Lib.hid (HB.out.trans (hb1.mono (by simp)))
        have c0 : w1.cell? ⟨b, o + k * 2, none⟩ = some (.int .i64 mi.t) := (hb1.cell (p := ⟨b, o + k * 2, none⟩) (by rw [hw1]; show b < _; omega)).trans K0.out
        have d0 : w1.cell? ⟨w.heap.size, 0, none⟩ = some (.int .i64 x.base) := (hb1.cell (p := ⟨w.heap.size, 0, none⟩) (by rw [hw1]; show w.heap.size < _; omega)).trans A0.out
        have d2 : w1.cell? ⟨w.heap.size, 2, none⟩ = some (.slice (some ⟨b, o, none⟩) ms.length c) := (hb1.cell (p := ⟨w.heap.size, 2, none⟩) (by rw [hw1]; show w.heap.size < _; omega)).trans A2.out
        clear hb1 hw1
        rw [← HL.out]
        go_wp2
        go_ret
        exact ⟨rfl, HB1.out⟩
end Go.Proofs.Ytogcnfhmcpkdcaa

namespace Go.Proofs.Ytogcnfhmcpkdcaa
set_option linter.unusedVariables false
set_option linter.unusedSimpArgs false

/-- what is taken of the first k items -/
def fromL {α : Type} (l : List α) (base last i most : Int) (k : Nat) : List α := if i ≤ base ∨ last < i then [] else ((l.drop (i - base - 1).toNat).take (k - (i - base - 1).toNat)).take most.toNat

theorem fromL_zero {α : Type} (l : List α) (base last i most : Int) : fromL l base last i most 0 = [] := by
  unfold fromL; split <;> simp

theorem fromL_yes {α : Type} {l : List α} {base last i most : Int} {k : Nat} {m : α} (hm : l[k]? = some m) (h1 : base < i) (h2 : i ≤ base + 1 + k) (h3 : i ≤ last) (h4 : ((fromL l base last i most k).length : Int) < most) :
    fromL l base last i most (k + 1) = fromL l base last i most k ++ [m] := by
  have hk : k < l.length := (List.getElem?_eq_some_iff.1 hm).1
  have e : l[k] = m := by simpa [List.getElem?_eq_getElem hk] using hm
  unfold fromL at *
  rw [if_neg (by omega)] at h4 ⊢
  rw [if_neg (by omega)]
  obtain ⟨D, hD⟩ : ∃ D : Nat, (i - base - 1).toNat = D := ⟨_, rfl⟩
  obtain ⟨M, hM⟩ : ∃ M : Nat, most.toNat = M := ⟨_, rfl⟩
  rw [hD, hM] at h4 ⊢
  have hDk : D ≤ k := by omega
  simp only [List.length_take, List.length_drop] at h4
  rw [List.take_of_length_le (l := (l.drop D).take (k + 1 - D)) (by simp; omega), List.take_of_length_le (l := (l.drop D).take (k - D)) (by simp; omega)]
  rw [show k + 1 - D = k - D + 1 by omega, List.take_succ_eq_append_getElem (by simp; omega)]
  congr 2
  rw [List.getElem_drop]
  simp only [show D + (k - D) = k by omega, e]

theorem fromL_no {α : Type} {l : List α} {base last i most : Int} {k : Nat} (h : ¬ (base < i ∧ i ≤ base + 1 + k ∧ i ≤ last)) : fromL l base last i most (k + 1) = fromL l base last i most k := by
  unfold fromL
  by_cases h1 : i ≤ base ∨ last < i
  · rw [if_pos h1, if_pos h1]
  · rw [if_neg h1, if_neg h1, show k + 1 - (i - base - 1).toNat = 0 by omega, show k - (i - base - 1).toNat = 0 by omega]

theorem fromL_le {α : Type} (l : List α) (base last i most : Int) (k : Nat) : (fromL l base last i most k).length ≤ k := by
  unfold fromL
  split
  · simp
  · simp only [List.length_take]; omega

theorem fromL_end {α : Type} {l : List α} {base last i most : Int} {k : Nat} (h : l.length ≤ k ∨ most ≤ ((fromL l base last i most k).length : Int)) :
    fromL l base last i most k = if i ≤ base ∨ last < i ∨ most < 1 then [] else (l.drop (i - base - 1).toNat).take most.toNat := by
  unfold fromL at *
  by_cases h1 : i ≤ base ∨ last < i
  · rw [if_pos h1, if_pos (by omega)]
  · rw [if_neg h1] at h ⊢
    by_cases h2 : most < 1
    · rw [if_pos (by omega), show most.toNat = 0 by omega]; simp
    · rw [if_neg (by omega)]
      simp only [List.length_take, List.length_drop] at h
      rw [List.take_take]
      rcases h with h | h
      · rw [← List.take_take, List.take_of_length_le (l := l.drop _) (by simp; omega)]
      · rw [Nat.min_eq_left (by omega)]

theorem fromL_map {α β : Type} (f : α → β) (l : List α) (base last i most : Int) (k : Nat) : (fromL l base last i most k).map f = fromL (l.map f) base last i most k := by
  unfold fromL
  split
  · rfl
  · rw [List.map_take, List.map_take, List.map_drop]

theorem fromL_sub {α : Type} {l : List α} {base last i most : Int} {k : Nat} {m : α} (h : m ∈ fromL l base last i most k) : m ∈ l := by
  unfold fromL at h
  split at h
  · simp at h
  · exact List.mem_of_mem_drop (List.mem_of_mem_take (List.mem_of_mem_take h))
end Go.Proofs.Ytogcnfhmcpkdcaa

namespace Go.Proofs.Ytogcnfhmcpkdcaa
open Go.RowKit
set_option linter.unusedVariables false
set_option linter.unusedSimpArgs false

set_option maxRecDepth 100000 in
set_option maxHeartbeats 1000000 in
theorem r17From (x : PLine) (hg : x.Good) (ra : Option Addr) (rc : Nat) (ms : List MItem) (i most : Int) (w : World) (h : RAt w w.heap.size x ra rc ms) :
    Calls Try.prog 57 #[rv x ra ms.length rc, .int .i64 i, .int .i64 most] w fun e w' => ∃ a' c' ms', e = .returned (.slice a' ms'.length c') ∧ w'.ownsRow w.heap.size 45 2 (.slice a' ms'.length c') ms'.length (cellsM ms') ∧ ItemsAt w' w'.heap.size a' ms'.length c' ms' ∧ ms'.map MItem.it = x.from_ i most ∧ Below w.heap.size w w' := by
  obtain ⟨i0, hi, hz0, hz1, hz2⟩ := info_parts infoItem3
  have hl := h.len
  have h1 := hg.b0
  have h2 := hg.b1
  have h3 := hg.n1
  have hn4 : (ms.length : Int) ≤ 4096 := by omega
  have hbb := (Below.refl _ w).alloc (Nat.le_refl w.heap.size) (.cells #[.int .i64 x.base, .int .i64 x.term, .slice ra ms.length rc] 88)
  have HB := Lib.hid hbb
  have H := Lib.hid h
  have HLEN := Lib.hid hl
  obtain ⟨L, hL⟩ : ∃ L, L = x.last := ⟨_, rfl⟩
  have HL := Lib.hid hL
  have HLL := Lib.hid (show x.last = x.base + (ms.length : Int) by rw [hl]; rfl)
  obtain ⟨W1, hW1⟩ : ∃ W1, W1 = w.alloc (.cells #[.int .i64 x.base, .int .i64 x.term, .slice ra ms.length rc] 88) := ⟨_, rfl⟩
  have hs1 : W1.heap.size = w.heap.size + 1 := by rw [hW1]; simp
  have hrow : W1.heap[w.heap.size]? = some (.cells #[.int .i64 x.base, .int .i64 x.term, .slice ra ms.length rc] 88 (0, 0)) := by rw [hW1]; exact heap_alloc_new w _
  rw [← hW1] at hbb
  have HW1 := Lib.hid hW1
  have HROW := Lib.hid hrow
  have HB1 := Lib.hid hbb
  clear h hl h3 hL hbb HB hW1 hrow
  go_enter Try.func57, Try.ntmps57
  go_wp2_with fail
  rw [← HW1.out]
  go_loopw [7, 8] (fun av kv wr => ∃ (k : Nat) (a : Option Addr) (c : Nat) (os : List MItem), av = .slice a os.length c ∧ kv = .int .i64 k ∧ k ≤ ms.length ∧ os = fromL ms x.base x.last i most k ∧ wr.ownsRow W1.heap.size 45 2 (.slice a os.length c) os.length (cellsM os) ∧ Below W1.heap.size W1 wr) (fun _ kv _ => ms.length - (intOf kv).toNat)
  case atStart => exact ⟨0, none, 0, [], rfl, rfl, by omega, (fromL_zero _ _ _ _ _).symm, ⟨rfl, .inl ⟨rfl, rfl⟩⟩, Below.refl _ _⟩
  case round =>
    obtain ⟨k, a, c, os, rfl, rfl, hk, hos, hown, hbel⟩ := hrel
    have HOS := Lib.hid hos
    have HOW := Lib.hid hown
    have HBE := Lib.hid hbel
    have hsz := hbel.size
    have hol : os.length ≤ k := by rw [hos]; exact fromL_le _ _ _ _ _ _
    have hrw : wr.heap[w.heap.size]? = some (.cells #[.int .i64 x.base, .int .i64 x.term, .slice ra ms.length rc] 88 (0, 0)) := (hbel.block _ (by omega)).trans HROW.out
    have d0 := cell_of_row wr w.heap.size 0 _ _ _ hrw
    have d1 := cell_of_row wr w.heap.size 1 _ _ _ hrw
    have d2 := cell_of_row wr w.heap.size 2 _ _ _ hrw
    simp at d0 d1 d2
    have d0 : wr.cell? ⟨w.heap.size, 0, none⟩ = some (.int .i64 x.base) := d0
    have d1 : wr.cell? ⟨w.heap.size, 1, none⟩ = some (.int .i64 x.term) := d1
    have d2 : wr.cell? ⟨w.heap.size, 2, none⟩ = some (.slice ra ms.length rc) := d2
    have HRW := Lib.hid hrw
    clear hos hown hbel hrw
    by_cases hend : k < ms.length ∧ (os.length : Int) < most
    · obtain ⟨hkl, hom⟩ := hend
      have t1 : decide (k < ms.length) = true := by simpa using hkl
      have t2 : decide ((os.length : Int) < most) = true := by simpa using hom
      have hkm : k + 1 ≤ ms.length := hkl
      by_cases q1 : x.base < i
      · have u1 : decide (x.base < i) = true := by simpa using q1
        by_cases q2 : i ≤ x.base + 1 + (k : Int)
        · have u2 : decide (i ≤ x.base + 1 + (k : Int)) = true := by simpa using q2
          have hwl : (wr.heap.size : Nat) = wr.heap.size := rfl
          by_cases q3 : i ≤ L
          · have u3 : decide (i ≤ L) = true := by simpa using q3
            obtain ⟨m, hm⟩ : ∃ m, ms[k]? = some m := ⟨_, List.getElem?_eq_getElem hkl⟩
            have HY := Lib.hid (fromL_yes hm q1 q2 (show i ≤ x.last by rw [← HL.out]; exact q3) (show ((fromL ms x.base x.last i most k).length : Int) < most by rw [← HOS.out]; exact hom))
            obtain ⟨b, o, rfl, hb, k0, k1⟩ := H.out.its.cell hm
            have hbb : Below w.heap.size w wr := HB1.out.trans (HBE.out.mono (by omega))
            have K0 := Lib.hid ((hbb.cell (p := ⟨b, o + k * 2, none⟩) hb).trans k0)
            have K1 := Lib.hid ((hbb.cell (p := ⟨b, o + (k * 2 + 1), none⟩) hb).trans k1)
            have hk0 : (0 : Int) ≤ (k : Int) := by omega
            have hk1 : (k : Int) < (ms.length : Int) := by omega
            clear k0 k1 hm hom q1 q2 q3 hbb
            go_wp2_with fail
            refine (r17Last x hg _ ms.length rc HLEN.out _).mono ?_
            rintro e w3 ⟨rfl, hb3⟩
            have hs3 := hb3.size
            have c0 : w3.cell? ⟨b, o + k * 2, none⟩ = some (.int .i64 m.t) := (hb3.cell (p := ⟨b, o + k * 2, none⟩) (by show b < _; omega)).trans K0.out
            have c1 : w3.cell? ⟨b, o + k * 2 + 1, none⟩ = some (.slice m.a m.n m.c) := (hb3.cell (p := ⟨b, o + (k * 2 + 1), none⟩) (by show b < _; omega)).trans K1.out
            have e2 : w3.cell? ⟨w.heap.size, 2, none⟩ = some (.slice (some ⟨b, o, none⟩) ms.length rc) := (hb3.cell (p := ⟨w.heap.size, 2, none⟩) (by show w.heap.size < _; omega)).trans d2
            have HB3 := Lib.hid hb3
            have HO3 := Lib.hid (own_below' HOW.out hb3)
            clear hb3 d0 d1 d2
            rw [← HL.out]
            go_wp2_with (at_builtin; go_must (refine wpList_append_sl _ rfl (.tmp 41) (.tmp 47) 49 rfl W1.heap.size 45 i0 (.agg #[.int .i64 0, .slice none 0 0]) 2 32 Try.underlying49 hi hz0 hz1 hz2 rfl (by decide) (.slice a os.length c) os.length _ rfl (HO3.out.alloc _) (w3.heap.size + 1) (some ⟨w3.heap.size, 0, none⟩) 1 1 [.int .i64 m.t, .slice m.a m.n m.c] rfl (slAt_item w3 #[.int .i64 m.t, .slice m.a m.n m.c] 45 2 rfl) (by intro u hu; simp at hu; rcases hu with rfl | rfl <;> rfl) (by unfold maxLen; omega) (by omega) (by simp; omega) ?_); intro a6 c6 w6 hown6 hgrow6 hat6)
            have HBN := Lib.hid (show Below W1.heap.size W1 w6 from ((HBE.out.trans (HB3.out.mono hsz)).alloc (by omega) _).grown hgrow6 (by simp; omega) (fun k hk => (own_lt HO3.out hk).1))
            have HON := Lib.hid (show w6.ownsRow W1.heap.size 45 2 (.slice a6 (os ++ [m]).length c6) (os ++ [m]).length (cellsM (os ++ [m])) from by
              rw [cellsM_append, show (os ++ [m]).length = os.length + 1 by simp]
              exact hown6)
            have hln : (os ++ [m]).length = os.length + 1 := by simp
            clear hown6 hgrow6 hat6 c0 c1 e2
            go_wp2
            rw [← hln]
            go_roundw
            case rel => exact ⟨k + 1, a6, c6, os ++ [m], rfl, by go_num, by omega, by rw [HY.out, ← HOS.out], HON.out, HBN.out⟩
            case measure => simp [intOf]; omega
          · have u3 : decide (i ≤ L) = false := by simpa using q3
            have HN := Lib.hid (fromL_no (l := ms) (base := x.base) (last := x.last) (i := i) (most := most) (k := k) (by rw [← HL.out]; omega))
            clear hkl hom q1 q2 q3
            go_wp2_with fail
            refine (r17Last x hg _ ms.length rc HLEN.out _).mono ?_
            rintro e w3 ⟨rfl, hb3⟩
            have hs3 := hb3.size
            have HO3 := Lib.hid (own_below' HOW.out hb3)
            have HBN := Lib.hid (HBE.out.trans (hb3.mono hsz))
            clear hb3 d0 d1 d2
            rw [← HL.out]
            go_wp2
            go_roundw
            case rel => exact ⟨k + 1, a, c, os, rfl, by go_num, by omega, by rw [HN.out]; exact HOS.out, HO3.out, HBN.out⟩
            case measure => simp [intOf]; omega
        · have u2 : decide (i ≤ x.base + 1 + (k : Int)) = false := by simpa using q2
          have HN := Lib.hid (fromL_no (l := ms) (base := x.base) (last := x.last) (i := i) (most := most) (k := k) (by omega))
          clear hkl hom
          go_wp2
          go_roundw
          case rel => exact ⟨k + 1, a, c, os, rfl, by go_num, by omega, by rw [HN.out]; exact HOS.out, HOW.out, HBE.out⟩
          case measure => simp [intOf]; omega
      · have u1 : decide (x.base < i) = false := by simpa using q1
        have HN := Lib.hid (fromL_no (l := ms) (base := x.base) (last := x.last) (i := i) (most := most) (k := k) (by omega))
        clear hkl hom
        go_wp2
        go_roundw
        case rel => exact ⟨k + 1, a, c, os, rfl, by go_num, by omega, by rw [HN.out]; exact HOS.out, HOW.out, HBE.out⟩
        case measure => simp [intOf]; omega
    · have HE := Lib.hid (fromL_end (l := ms) (base := x.base) (last := x.last) (i := i) (most := most) (k := k) (by rw [← HOS.out]; omega))
      have HFIN := Lib.hid (show (fromL ms x.base x.last i most k).map MItem.it = x.from_ i most by
        rw [HE.out, PLine.from_]
        split
        · rfl
        · rw [List.map_take, List.map_drop, H.out.eq])
      have HITS := Lib.hid (show ItemsAt wr wr.heap.size a os.length c os from by
        obtain ⟨a', c', e, hs⟩ := SlAt.ofOwns HOW.out
        injection e with e1 _ e2
        subst e1 e2
        refine ⟨hs, fun m hm => ?_⟩
        rw [HOS.out] at hm
        exact ((H.out.its.bs m (fromL_sub hm)).below (HB1.out.trans (HBE.out.mono (by omega))) (Nat.le_refl _)).mono (by omega))
      have HBF := Lib.hid (HB1.out.trans (HBE.out.mono (by omega)))
      by_cases hkl : k < ms.length
      · have t1 : decide (k < ms.length) = true := by simpa using hkl
        have t2 : decide ((os.length : Int) < most) = false := by simp; omega
        clear hend
        go_wp2
        go_ret
        exact ⟨a, c, os, rfl, World.ownsRow.mono HOW.out (by omega), HITS.out, by rw [HOS.out]; exact HFIN.out, HBF.out⟩
      · have t1 : decide (k < ms.length) = false := by simpa using hkl
        clear hend
        go_wp2
        go_ret
        exact ⟨a, c, os, rfl, World.ownsRow.mono HOW.out (by omega), HITS.out, by rw [HOS.out]; exact HFIN.out, HBF.out⟩
end Go.Proofs.Ytogcnfhmcpkdcaa

namespace Go.Proofs.Ytogcnfhmcpkdcaa
open Go.RowKit
set_option linter.unusedVariables false
set_option linter.unusedSimpArgs false

/-- a slice that is as it was, or lies in a block of the call's own -/
def Fresh (w W : World) (a a' : Option Addr) : Prop := a' = a ∨ ∀ ad, a' = some ad → w.heap.size ≤ ad.block ∧ ad.block < W.heap.size
theorem Fresh.own {w W : World} {N T size n c k : Nat} {a a' : Option Addr} {cs : List Value} (h : W.ownsRow N T size (.slice a' n c) k cs) (hN : w.heap.size ≤ N) : Fresh w W a a' :=
  .inr fun ad e => by
    subst e
    have h9 := own_lt h (g := ad.block) rfl
    exact ⟨by omega, h9.2⟩

theorem infoRLine : (Try.prog.info? 88).map (·.size) = some 3 := by kernel_rfl

set_option maxRecDepth 100000 in
set_option maxHeartbeats 1000000 in
theorem r17Drop (x : PLine) (hg : x.Good) (a : Option Addr) (c : Nat) (ms : List MItem) (i : Int) (w : World) (h : RAt w w.heap.size x a c ms) :
    Calls Try.prog 55 #[rv x a ms.length c, .int .i64 i] w fun e w' => ∃ a' c' ms', e = .returned (.tuple #[rv (x.drop i).1 a' ms'.length c', .bool (x.drop i).2]) ∧ RAt w' w'.heap.size (x.drop i).1 a' c' ms' ∧ Below w.heap.size w w' ∧ Fresh w w' a a' ∧ ∀ m ∈ ms', m ∈ ms := by
  obtain ⟨i0, hi, hz0, hz1, hz2⟩ := info_parts infoItem3
  have hl := h.len
  have h1 := hg.b0
  have h2 := hg.b1
  have h3 := hg.n1
  have hn4 : (ms.length : Int) ≤ 4096 := by omega
  have htg := hg.tm_ge i
  have hlast : x.last = x.base + (x.l.length : Int) := rfl
  have H := Lib.hid h
  obtain ⟨W1, hW1⟩ : ∃ W1, W1 = (w.alloc (.cells #[.int .i64 x.base, .int .i64 x.term, .slice a ms.length c] 88)).alloc (.cells #[.int .i64 0, .int .i64 0, .slice none 0 0] 88) := ⟨_, rfl⟩
  have hs1 : W1.heap.size = w.heap.size + 2 := by rw [hW1]; simp
  have hbW : Below w.heap.size w W1 := by rw [hW1]; exact ((Below.refl _ w).alloc (Nat.le_refl _) _).alloc (by simp) _
  have hr0 : W1.heap[w.heap.size]? = some (.cells #[.int .i64 x.base, .int .i64 x.term, .slice a ms.length c] 88 (0, 0)) := by
    rw [hW1]
    exact (((Below.refl _ _).alloc (Nat.le_refl (w.alloc (.cells #[.int .i64 x.base, .int .i64 x.term, .slice a ms.length c] 88)).heap.size) _).block _ (by simp)).trans (heap_alloc_new w _)
  have hr1 : W1.heap[w.heap.size + 1]? = some (.cells #[.int .i64 0, .int .i64 0, .slice none 0 0] 88 (0, 0)) := by
    rw [hW1]
    have := heap_alloc_new (w.alloc (.cells #[.int .i64 x.base, .int .i64 x.term, .slice a ms.length c] 88)) (.cells #[.int .i64 0, .int .i64 0, .slice none 0 0] 88)
    simpa using this
  have HW1 := Lib.hid hW1
  have HBW := Lib.hid hbW
  have HR0 := Lib.hid hr0
  have HR1 := Lib.hid hr1
  obtain ⟨R, hR⟩ : ∃ R, x.tm i = R := ⟨_, rfl⟩
  have HR := Lib.hid hR
  by_cases ht : R < 0
  · have hE : x.drop i = (x, false) := by rw [PLine.drop, hR, if_pos ht]
    rw [hE]
    have t1 : decide (R < 0) = true := by simpa using ht
    clear h hl h3 htg hlast hW1 hbW hr0 hr1 hR ht hE
    go_enter Try.func55, Try.ntmps55
    go_wp2_with fail
    rw [← HW1.out]
    refine (r17At x hg a c ms i _ ((H.out.below HBW.out (Nat.le_refl _)).mono (by omega))).mono ?_
    rintro e w3 ⟨rfl, hb3⟩
    rw [HR.out]
    have hs3 := hb3.size
    have hd0 := (hb3.block w.heap.size (by omega)).trans HR0.out
    have HD1 := Lib.hid ((hb3.block (w.heap.size + 1) (by omega)).trans HR1.out)
    have d0 : w3.cell? ⟨w.heap.size, 0, none⟩ = some (.int .i64 x.base) := cell_of_row w3 w.heap.size 0 _ _ _ hd0
    have d1 : w3.cell? ⟨w.heap.size, 1, none⟩ = some (.int .i64 x.term) := cell_of_row w3 w.heap.size 1 _ _ _ hd0
    have d2 : w3.cell? ⟨w.heap.size, 2, none⟩ = some (.slice a ms.length c) := cell_of_row w3 w.heap.size 2 _ _ _ hd0
    have HB3 := Lib.hid (HBW.out.trans (hb3.mono (by omega)))
    clear hb3 hd0
    go_wp2_with (refine wpList_store_abs rfl 88 (.tmp 4) (.tmp 12) rfl (w.heap.size + 1) #[.int .i64 x.base, .int .i64 x.term, .slice a ms.length c] rfl rfl 88 _ HD1.out infoRLine rfl (by simp [Value.oneCell']) ?_; intro W5 hrow5 hoth5 hb5 hs5)
    have hb5' := HB3.out.trans (hb5.mono (show w.heap.size ≤ w.heap.size + 1 by omega))
    refine bodyPost_ret (results_row_tmp rfl _ _ (w.heap.size + 1) 88 _ (0, 0) _ rfl hrow5 Try.underlying88 rfl infoRLine) rfl ⟨a, c, ms, rfl, (H.out.below hb5' (Nat.le_refl _)).mono (by omega), hb5', .inl rfl, fun m hm => hm⟩
  · have hE : x.drop i = (⟨i, R, x.l.drop (i - x.base).toNat⟩, true) := by rw [PLine.drop, hR, if_neg ht]
    rw [hE]
    rw [hR] at htg
    have hin := htg.1 (by omega)
    obtain ⟨K, hK⟩ : ∃ K : Nat, i - x.base = K := ⟨(i - x.base).toNat, by omega⟩
    have hKn : K ≤ ms.length := by omega
    have hKt : (i - x.base).toNat = K := by omega
    rw [hKt]
    have wK : IntKind.i64.wrap (K : Int) = K := IntWalk.i64_in _ (by omega)
    have hK0 : (0 : Int) ≤ K := by omega
    have hK1 : (K : Int) ≤ (ms.length : Int) := by omega
    obtain ⟨A, hA⟩ : ∃ A, (if c = K then a else Option.map (fun x => x.add (K * 2)) a) = A := ⟨_, rfl⟩
    have hits : ItemsAt w w.heap.size A (ms.length - K) (c - K) (ms.drop K) := by
      have hf := h.its.from_ (k := K) (by omega)
      rw [← hA]
      exact hf
    have HITS := Lib.hid hits
    have t1 : decide (R < 0) = false := by simpa using ht
    clear h hl h3 htg hlast hW1 hbW hr0 hr1 hR ht hE hits hin hKt
    go_enter Try.func55, Try.ntmps55
    go_wp2_with fail
    rw [← HW1.out]
    refine (r17At x hg a c ms i _ ((H.out.below HBW.out (Nat.le_refl _)).mono (by omega))).mono ?_
    rintro e w3 ⟨rfl, hb3⟩
    rw [HR.out]
    have hs3 := hb3.size
    have hd0 := (hb3.block w.heap.size (by omega)).trans HR0.out
    have hbA : Below w3.heap.size w3 (w3.alloc (.cells #[] 45)) := (Below.refl _ _).alloc (Nat.le_refl _) _
    have HD1 := Lib.hid ((hbA.block (w.heap.size + 1) (by omega)).trans ((hb3.block (w.heap.size + 1) (by omega)).trans HR1.out))
    have d0 : w3.cell? ⟨w.heap.size, 0, none⟩ = some (.int .i64 x.base) := cell_of_row w3 w.heap.size 0 _ _ _ hd0
    have d1 : w3.cell? ⟨w.heap.size, 1, none⟩ = some (.int .i64 x.term) := cell_of_row w3 w.heap.size 1 _ _ _ hd0
    have d2 : w3.cell? ⟨w.heap.size, 2, none⟩ = some (.slice a ms.length c) := cell_of_row w3 w.heap.size 2 _ _ _ hd0
    have HB3 := Lib.hid (HBW.out.trans (hb3.mono (by omega)))
    have HSL := Lib.hid (show SlAt (w3.alloc (.cells #[] 45)) (w3.heap.size + 1) 2 A (ms.length - K) (c - K) (cellsM (ms.drop K)) from ((HITS.out.below (HB3.out.trans (hbA.mono (show w.heap.size ≤ w3.heap.size by omega))) (Nat.le_refl _)).mono (by omega)).sl)
    have HNB := Lib.hid (show some (w.heap.size + 1) ≠ (Value.slice (some ⟨w3.heap.size, 0, none⟩) 0 0).ownBlock from fun e9 => by
      simp [Value.ownBlock] at e9
      omega)
    have hlt3 : w.heap.size < w3.heap.size := by omega
    clear hb3 hd0 hbA
    go_wp2_with (first
      | (at_builtin; go_must (refine wpList_append_sl _ rfl (.tmp 15) (.tmp 22) 49 rfl w3.heap.size 45 i0 (.agg #[.int .i64 0, .slice none 0 0]) 2 32 Try.underlying49 hi hz0 hz1 hz2 rfl (by decide) _ 0 [] rfl (ownsRow_nilT w3 w3.heap.size 2 (Nat.le_refl _) 45) (w3.heap.size + 1) A (ms.length - K) (c - K) (cellsM (ms.drop K)) rfl HSL.out (cellsM_one _) (by unfold maxLen; omega) (by omega) (by simp) ?_); intro a5 c5 w5 hown5 hgrow5 hat5)
      | (refine wpList_store_abs rfl 88 (.tmp 4) (.tmp 24) rfl (w.heap.size + 1) #[.int .i64 i, .int .i64 R, .slice a5 (ms.length - K) c5] rfl rfl 88 _ ((hgrow5.block (w.heap.size + 1) (by simp; omega) HNB.out).trans HD1.out) infoRLine rfl (by simp [Value.oneCell']) ?_; intro W5 hrow5 hoth5 hb5 hs5))
    simp only [Nat.zero_add, List.nil_append] at hown5
    have hb5a : Below w3.heap.size w3 w5 := ((Below.refl _ w3).alloc (Nat.le_refl _) (.cells #[] 45)).grown hgrow5 (by simp) (fun k hk => (own_lt (ownsRow_nilT w3 w3.heap.size 2 (Nat.le_refl _) 45) hk).1)
    have hs5a := hb5a.size
    have hbF : Below w.heap.size w W5 := HB3.out.trans ((hb5a.mono (by omega)).trans (hb5.mono (show w.heap.size ≤ w.heap.size + 1 by omega)))
    have hownF : W5.ownsRow w3.heap.size 45 2 (.slice a5 (ms.length - K) c5) (ms.length - K) (cellsM (ms.drop K)) := World.ownsRow.kept hown5 (row := some (w.heap.size + 1)) ⟨hb5.os, hb5.tape, hb5.output, by omega, fun k hk hne => hoth5 k (fun e => hne (by rw [e]))⟩ (.inr fun e => by have h9 := (own_lt hown5 e).1; omega)
    refine bodyPost_ret (results_row_tmp rfl _ _ (w.heap.size + 1) 88 _ (0, 0) _ rfl hrow5 Try.underlying88 rfl infoRLine) rfl ⟨a5, c5, ms.drop K, by simp, ⟨?_, by rw [List.map_drop, H.out.eq]⟩, hbF, Fresh.own hownF (by omega), fun m hm => List.mem_of_mem_drop hm⟩
    obtain ⟨a', c', e, hs⟩ := SlAt.ofOwns hownF
    injection e with e1 _ e2
    subst e1 e2
    rw [show (ms.drop K).length = ms.length - K by simp]
    exact ⟨hs, fun m hm => ((HITS.out.bs m hm).below hbF (Nat.le_refl _)).mono hbF.size⟩
end Go.Proofs.Ytogcnfhmcpkdcaa
