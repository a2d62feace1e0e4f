/-
  Contracts of the reference's Right, fits, Last, At of a line.
-/
import Derived.Test.YtogcnfhmcpkdcaaLine8
namespace Go.Proofs.Ytogcnfhmcpkdcaa
open Go.RowKit
set_option linter.unusedVariables false
set_option linter.unusedSimpArgs false

/-- the reference's line in memory -/
structure RAt (w : World) (B : Nat) (x : PLine) (a : Option Addr) (c : Nat) (ms : List MItem) : Prop where
  its : ItemsAt w B a ms.length c ms
  eq : ms.map MItem.it = x.l
abbrev rv (x : PLine) (a : Option Addr) (n c : Nat) : Value := .agg #[.int .i64 x.base, .int .i64 x.term, .slice a n c]

theorem RAt.len {w : World} {B : Nat} {x : PLine} {a : Option Addr} {c : Nat} {ms : List MItem} (h : RAt w B x a c ms) : ms.length = x.l.length := by rw [← h.eq]; simp
theorem RAt.below {w w' : World} {B B' : Nat} {x : PLine} {a : Option Addr} {c : Nat} {ms : List MItem} (h : RAt w B x a c ms) (hb : Below B' w w') (hB : B ≤ B') : RAt w' B x a c ms := ⟨h.its.below hb hB, h.eq⟩
theorem RAt.mono {w : World} {B B' : Nat} {x : PLine} {a : Option Addr} {c : Nat} {ms : List MItem} (h : RAt w B x a c ms) (hB : B ≤ B') : RAt w B' x a c ms := ⟨h.its.mono hB, h.eq⟩

theorem r17Right (t : Int) (a : Option Addr) (c : Nat) (b : List UInt8) (w : World) :
    Calls Try.prog 118 #[.agg #[.int .i64 t, .slice a b.length c]] w fun e w' => e = .returned (.bool (rightI (t, b))) ∧ Below w.heap.size w w' := by
  obtain ⟨x, h1⟩ : ∃ x : Bool, decide (0 ≤ t) = x := ⟨_, rfl⟩
  obtain ⟨z, h3⟩ : ∃ z : Bool, decide (t ≤ 1099511627776) = z := ⟨_, rfl⟩
  obtain ⟨y, h2⟩ : ∃ y : Bool, decide ((b.length : Int) ≤ 8192) = y := ⟨_, rfl⟩
  have h2' : decide (b.length ≤ 8192) = y := by rw [← h2, Bool.eq_iff_iff]; simp; omega
  have e1 : rightI (t, b) = (x && (z && y)) := by rw [← h1, ← h2', ← h3]; rfl
  rw [e1]
  have HE := Lib.hid e1
  have HB := Lib.hid ((Below.refl _ w).alloc (Nat.le_refl _) (.cells #[.int .i64 t, .slice a b.length c] 45))
  clear e1
  cases x <;> cases z <;> cases y
  all_goals
    go_enter Try.func118, Try.ntmps118
    go_wp2
    go_ret
    exact ⟨rfl, HB.out⟩

theorem r17Fits (x : PLine) (hx0 : 0 ≤ x.base) (hx1 : x.base ≤ 1099511627776) (a : Option Addr) (m c : Nat) (n : Int) (w : World) :
    Calls Try.prog 119 #[rv x a m c, .int .i64 n] w fun e w' => e = .returned (.bool (fitsB x n)) ∧ Below w.heap.size w w' := by
  obtain ⟨y, h1⟩ : ∃ y : Bool, decide (n ≤ 4096) = y := ⟨_, rfl⟩
  obtain ⟨z, h2⟩ : ∃ z : Bool, decide (n ≤ 1099511627776 - x.base) = z := ⟨_, rfl⟩
  have e1 : fitsB x n = (y && z) := by rw [← h1, ← h2]; rfl
  rw [e1]
  have HE := Lib.hid e1
  have HB := Lib.hid ((Below.refl _ w).alloc (Nat.le_refl _) (.cells #[.int .i64 x.base, .int .i64 x.term, .slice a m c] 88))
  clear e1
  cases y <;> cases z
  all_goals
    go_enter Try.func119, Try.ntmps119
    go_wp2
    go_ret
    exact ⟨rfl, HB.out⟩

theorem r17Last (x : PLine) (hg : x.Good) (a : Option Addr) (m c : Nat) (hm : m = x.l.length) (w : World) :
    Calls Try.prog 120 #[rv x a m c] w fun e w' => e = .returned (.int .i64 x.last) ∧ Below w.heap.size w w' := by
  obtain ⟨L, hL⟩ : ∃ L, L = x.last := ⟨_, rfl⟩
  have hL2 : x.base + (m : Int) = L := by rw [hL, PLine.last, hm]
  rw [← hL]
  have h1 := hg.b0
  have h2 := hg.b1
  have h3 := hg.n1
  have hn4 : (m : Int) ≤ 4096 := by omega
  have HL := Lib.hid hL2
  have HB := Lib.hid ((Below.refl _ w).alloc (Nat.le_refl _) (.cells #[.int .i64 x.base, .int .i64 x.term, .slice a m c] 88))
  clear hL hm h3 hL2
  go_enter Try.func120, Try.ntmps120
  go_wp2
  go_ret
  exact ⟨ret_int HL.out, HB.out⟩

set_option maxHeartbeats 1000000 in
theorem r17At (x : PLine) (hg : x.Good) (a : Option Addr) (c : Nat) (ms : List MItem) (i : Int) (w : World) (h : RAt w w.heap.size x a c ms) :
    Calls Try.prog 121 #[rv x a ms.length c, .int .i64 i] w fun e w' => e = .returned (.int .i64 (x.tm i)) ∧ Below w.heap.size w w' := by
  have hl := h.len
  have h1 := hg.b0
  have h2 := hg.b1
  have h3 := hg.n1
  have hlast : x.last = x.base + (x.l.length : Int) := rfl
  obtain ⟨L, hL⟩ : ∃ L, L = x.last := ⟨_, rfl⟩
  obtain ⟨R, hR⟩ : ∃ R, R = x.tm i := ⟨_, rfl⟩
  rw [← hR]
  have HR := Lib.hid hR
  have hbb := (Below.refl _ w).alloc (Nat.le_refl w.heap.size) (.cells #[.int .i64 x.base, .int .i64 x.term, .slice a ms.length c] 88)
  have HB := Lib.hid hbb
  by_cases e0 : i = x.base
  · have t0 : (i == x.base) = true := by simpa using e0
    have hr : R = x.term := by rw [hR, PLine.tm, if_pos e0]
    subst hr
    clear h hl hR hlast hL h3 e0 hbb
    go_enter Try.func121, Try.ntmps121
    go_wp2
    go_ret
    exact ⟨rfl, HB.out⟩
  · have t0 : (i == x.base) = false := by simpa using e0
    by_cases e1 : i < x.base
    · have hr : R = -1 := by rw [hR, PLine.tm, if_neg e0, if_pos (.inl e1)]
      subst hr
      clear h hl hR hlast hL h3 e0 hbb
      go_enter Try.func121, Try.ntmps121
      go_wp2
      go_ret
      exact ⟨rfl, HB.out⟩
    · by_cases e2 : L < i
      · have hr : R = -1 := by rw [hR, PLine.tm, if_neg e0, if_pos (.inr (by omega))]
        subst hr
        have HL := Lib.hid hL
        have hs := hbb.size
        have HLEN := Lib.hid hl
        clear h hl hR hlast hL h3 e0 hbb
        go_enter Try.func121, Try.ntmps121
        go_wp2_with fail
        refine (r17Last x hg a ms.length c HLEN.out _).mono ?_
        rintro e w1 ⟨rfl, hb1⟩
        have HB1 := Lib.hid (HB.out.trans (hb1.mono (by simp)))
        clear hb1
        rw [← HL.out]
        go_wp2
        go_ret
        exact ⟨rfl, HB1.out⟩
      · have hlt : (i - x.base - 1).toNat < ms.length := by omega
        obtain ⟨k, hk⟩ : ∃ k : Nat, i - x.base - 1 = k := ⟨(i - x.base - 1).toNat, by omega⟩
        have hkn : k < ms.length := by omega
        obtain ⟨mi, hmi⟩ : ∃ mi, ms[k]? = some mi := ⟨_, List.getElem?_eq_getElem hkn⟩
        obtain ⟨b, o, rfl, hb, k0, k1⟩ := h.its.cell hmi
        have hr : R = mi.t := by
          rw [hR]
          simp only [PLine.tm]
          rw [if_neg e0, if_neg (by omega), ← h.eq, hk]
          simp [List.getD, List.getElem?_map, hmi]
        subst hr
        have HL := Lib.hid hL
        have HLEN := Lib.hid hl
        have K0 := Lib.hid ((hbb.cell (p := ⟨b, o + k * 2, none⟩) hb).trans k0)
        have s1 : IntKind.i64.wrap (i - x.base) = i - x.base := IntWalk.i64_in _ (by omega)
        have wK : IntKind.i64.wrap (k : Int) = k := IntWalk.i64_in _ (by omega)
        have hi1 : (k : Int) < (ms.length : Int) := by omega
        have hi0 : (0 : Int) ≤ (k : Int) := by omega
        have hw1 : (w.alloc (.cells #[.int .i64 x.base, .int .i64 x.term, .slice (some ⟨b, o, none⟩) ms.length c] 88)).heap.size = w.heap.size + 1 := by simp
        have A0 := Lib.hid (cell_of_row (w.alloc (.cells #[.int .i64 x.base, .int .i64 x.term, .slice (some ⟨b, o, none⟩) ms.length c] 88)) w.heap.size 0 _ _ _ (heap_alloc_new w _))
        have A2 := Lib.hid (cell_of_row (w.alloc (.cells #[.int .i64 x.base, .int .i64 x.term, .slice (some ⟨b, o, none⟩) ms.length c] 88)) w.heap.size 2 _ _ _ (heap_alloc_new w _))
        clear h hl hR hlast hL h3 e0 hbb hmi k0 k1 hlt
        go_enter Try.func121, Try.ntmps121
        go_wp2_with fail
        refine (r17Last x hg _ ms.length c HLEN.out _).mono ?_
        rintro e w1 ⟨rfl, hb1⟩
        have hs1 := hb1.size
        rw [hw1] at hs1
        have HB1 := Lib.hid (HB.out.trans (hb1.mono (by simp)))
        have c0 : w1.cell? ⟨b, o + k * 2, none⟩ = some (.int .i64 mi.t) := (hb1.cell (p := ⟨b, o + k * 2, none⟩) (by rw [hw1]; show b < _; omega)).trans K0.out
        have d0 : w1.cell? ⟨w.heap.size, 0, none⟩ = some (.int .i64 x.base) := (hb1.cell (p := ⟨w.heap.size, 0, none⟩) (by rw [hw1]; show w.heap.size < _; omega)).trans A0.out
        have d2 : w1.cell? ⟨w.heap.size, 2, none⟩ = some (.slice (some ⟨b, o, none⟩) ms.length c) := (hb1.cell (p := ⟨w.heap.size, 2, none⟩) (by rw [hw1]; show w.heap.size < _; omega)).trans A2.out
        clear hb1 hw1
        rw [← HL.out]
        go_wp2
        go_ret
        exact ⟨rfl, HB1.out⟩
end Go.Proofs.Ytogcnfhmcpkdcaa
