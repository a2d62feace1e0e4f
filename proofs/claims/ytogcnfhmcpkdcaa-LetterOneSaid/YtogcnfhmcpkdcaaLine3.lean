/-
  Contracts of the library's Clone and ContainsFunc of items, of Line.Copy and Line.Drop.
-/
import Derived.Test.YtogcnfhmcpkdcaaLine2
import Derived.Test.YtogcnfhmcpkdcaaSliceOps
namespace Go.Proofs.Ytogcnfhmcpkdcaa
open Go.RowKit
set_option linter.unusedVariables false
set_option linter.unusedSimpArgs false

theorem ownsRow_nilT (w : World) (B size : Nat) (hB : B ≤ w.heap.size) (t : TypeId) : (w.alloc (.cells #[] t)).ownsRow B t size (.slice (some ⟨w.heap.size, 0, none⟩) 0 0) 0 [] :=
  ⟨by simp, .inr ⟨w.heap.size, 0, #[], rfl, hB, heap_alloc_new w _, Nat.le_refl _, by unfold maxLen; omega, by simp, by simp⟩⟩

set_option maxRecDepth 100000 in
set_option maxHeartbeats 2000000 in
theorem cloneItems (cs : List Value) (hcs : ∀ u ∈ cs, u.oneCell' = true) (a : Option Addr) (n c : Nat) (hn : n ≤ 100000) (w : World) (h : SlAt w w.heap.size 2 a n c cs) :
    Calls Try.prog 111 #[.slice a n c] w fun e w' => ∃ a' c', e = .returned (.slice a' n c') ∧ w'.ownsRow w.heap.size 45 2 (.slice a' n c') n cs ∧ Below w.heap.size w w' := by
  have qn : ∀ (w : World) (a : Option Addr) (n c n' c' : Nat), (binOp .eql 49 (.slice a n c) (.slice none n' c')).run Try.prog w = .ok (.bool a.isNone) w := fun w a n c n' c' => Lib.run_eql_slice_nil w _ _ a n c n' c' Try.underlying49
  obtain ⟨i0, hi, hz0, hz1, hz2⟩ := info_parts infoItem3
  have H := Lib.hid h
  cases a with
  | none =>
    have hc0 := h.hnil rfl
    subst hc0
    have hn0 : n = 0 := by have := h.hle; omega
    subst hn0
    have hl : cs = [] := List.eq_nil_of_length_eq_zero (by have := h.hlen; omega)
    subst hl
    clear h
    go_enter Try.func111, Try.ntmps111
    go_wp2
    go_ret
    exact ⟨none, 0, rfl, ⟨rfl, .inl ⟨rfl, rfl⟩⟩, Below.refl _ _⟩
  | some ad =>
    clear h
    go_enter Try.func111, Try.ntmps111
    go_wp2_with (at_builtin; refine wpList_append_sl _ rfl (.tmp 5) (.tmp 6) 49 rfl w.heap.size 45 i0 (.agg #[.int .i64 0, .slice none 0 0]) 2 32 Try.underlying49 hi hz0 hz1 hz2 rfl (by decide) _ 0 [] rfl (ownsRow_nilT w w.heap.size 2 (Nat.le_refl _) 45) (w.heap.size + 1) (some ad) n c cs rfl ((H.out.below ((Below.refl _ w).alloc (Nat.le_refl _) _) (Nat.le_refl _)).mono (by simp)) hcs (by unfold maxLen; omega) (by omega) (by simp) ?_; intro a5 c5 w5 hown5 hgrow5 hat5)
    have hown := hown5
    simp only [Nat.zero_add, List.nil_append] at hown
    have hb : Below w.heap.size w w5 := ((Below.refl _ w).alloc (Nat.le_refl _) (.cells #[] 45)).grown hgrow5 (by simp) (fun k hk => (own_lt (ownsRow_nilT w w.heap.size 2 (Nat.le_refl _) 45) hk).1)
    go_ret
    simp only [Nat.zero_add]
    exact ⟨a5, c5, rfl, hown, hb⟩

theorem joinRight (t : Int) (a : Option Addr) (c : Nat) (b : List UInt8) (w : World) :
    Calls Try.prog 110 #[.agg #[.int .i64 t, .slice a b.length c]] w fun e w' => e = .returned (.bool (!rightI (t, b))) ∧ Below w.heap.size w w' := by
  obtain ⟨r, hr⟩ : ∃ r, rightI (t, b) = r := ⟨_, rfl⟩
  rw [hr]
  have HR := Lib.hid hr
  have HB := Lib.hid ((Below.refl _ w).alloc (Nat.le_refl _) (.cells #[.int .i64 t, .slice a b.length c] 45))
  clear hr
  go_enter Try.func110, Try.ntmps110
  go_wp2_with fail
  refine (lineRight _ _ _ _ _).mono ?_
  rintro e w1 ⟨rfl, hb1⟩
  rw [HR.out]
  have HB1 := Lib.hid (HB.out.trans (hb1.mono (by simp)))
  clear hb1
  go_wp2
  go_ret
  exact ⟨rfl, HB1.out⟩

def anyBad (ms : List MItem) : Bool := ms.any fun m => !rightI m.it
theorem anyBad_take {ms : List MItem} {j : Nat} {m : MItem} (h : ms[j]? = some m) : anyBad (ms.take (j + 1)) = (anyBad (ms.take j) || !rightI m.it) := by
  have hl : j < ms.length := (List.getElem?_eq_some_iff.1 h).1
  have e : ms[j] = m := by simpa [List.getElem?_eq_getElem hl] using h
  unfold anyBad
  rw [List.take_succ_eq_append_getElem hl, List.any_append, e]
  simp
theorem anyBad_mono {ms : List MItem} {j : Nat} (h : anyBad (ms.take j) = true) : anyBad ms = true := by
  unfold anyBad at *
  rw [List.any_eq_true] at *
  obtain ⟨m, hm, h2⟩ := h
  exact ⟨m, List.mem_of_mem_take hm, h2⟩

set_option maxRecDepth 100000 in
set_option maxHeartbeats 2000000 in
theorem indexItems (ms : List MItem) (a : Option Addr) (n c : Nat) (w : World) (hn : n ≤ 100000) (h : ItemsAt w w.heap.size a n c ms) :
    Calls Try.prog 161 #[.slice a n c, .func (.func 110) #[] #[]] w fun e w' => ∃ k : Int, e = .returned (.int .i64 k) ∧ decide (0 ≤ k) = anyBad ms ∧ Below w.heap.size w w' := by
  have hl := h.len
  subst hl
  have H := Lib.hid h
  clear h
  go_enter Try.func161, Try.ntmps161
  go_wp2_with fail
  go_loopw [8] (fun iv wr => ∃ j : Nat, j ≤ ms.length ∧ iv = .int .i64 j ∧ anyBad (ms.take j) = false ∧ Below w.heap.size w wr) (fun iv _ => ms.length - (intOf iv).toNat)
  case atStart => exact ⟨0, by omega, rfl, rfl, Below.refl _ _⟩
  case round =>
    obtain ⟨j, hj, rfl, hany, hbel⟩ := hrel
    have HAN := Lib.hid hany
    have HB := Lib.hid hbel
    clear hany
    by_cases hlt : j < ms.length
    · obtain ⟨m, hm⟩ : ∃ m, ms[j]? = some m := ⟨_, List.getElem?_eq_getElem hlt⟩
      obtain ⟨b, o, rfl, hb, k0, k1⟩ := H.out.cell hm
      have c0 := (hbel.cell (p := ⟨b, o + j * 2, none⟩) hb).trans k0
      have c1 : wr.cell? ⟨b, o + j * 2 + 1, none⟩ = some (.slice m.a m.n m.c) := (hbel.cell (p := ⟨b, o + (j * 2 + 1), none⟩) hb).trans k1
      have hmn : m.n = m.b.length := ((H.out.bs m (List.mem_of_getElem? hm)).hlen).symm
      rw [hmn] at c1
      have hsn := anyBad_take hm
      rw [HAN.out, Bool.false_or] at hsn
      have HSN := Lib.hid hsn
      have HBM := Lib.hid (show anyBad (ms.take (j + 1)) = true → anyBad ms = true from anyBad_mono)
      have hj0 : (0 : Int) ≤ (j : Int) := by omega
      have hj1 : (j : Int) < (ms.length : Int) := by omega
      have hsz := hbel.size
      clear k0 k1 hm hsn hbel hmn
      go_wp2_with fail
      refine (joinRight m.t m.a m.c m.b _).mono ?_
      rintro e w1 ⟨rfl, hb1⟩
      have HB1 := Lib.hid (HB.out.trans (hb1.mono hsz))
      clear hb1 c0 c1
      rw [← HSN.out]
      cases hr : anyBad (ms.take (j + 1))
      · have HR := Lib.hid hr
        clear hr
        go_wp2
        go_roundw
        case rel => exact ⟨j + 1, by omega, by go_num, HR.out, HB1.out⟩
        case measure => simp [intOf]; omega
      · have HR := Lib.hid (HBM.out hr)
        clear hr
        go_wp2
        go_ret
        exact ⟨j, rfl, by rw [HR.out]; simp, HB1.out⟩
    · have hj' : j = ms.length := by omega
      subst hj'
      have HA := Lib.hid (show anyBad ms = false by have := HAN.out; rwa [List.take_length] at this)
      clear hbel
      go_wp2
      go_ret
      exact ⟨-1, rfl, by rw [HA.out]; rfl, HB.out⟩

theorem containsItems (ms : List MItem) (a : Option Addr) (n c : Nat) (w : World) (hn : n ≤ 100000) (h : ItemsAt w w.heap.size a n c ms) :
    Calls Try.prog 109 #[.slice a n c, .func (.func 110) #[] #[]] w fun e w' => e = .returned (.bool (anyBad ms)) ∧ Below w.heap.size w w' := by
  have H := Lib.hid h
  clear h
  go_enter Try.func109, Try.ntmps109
  go_wp2_with fail
  refine (indexItems ms a n c w hn H.out).mono ?_
  rintro e w1 ⟨k, rfl, hk, hb⟩
  have HB := Lib.hid hb
  have HK := Lib.hid hk
  clear hk hb
  go_wp2
  go_ret
  exact ⟨ret_bool HK.out, HB.out⟩
end Go.Proofs.Ytogcnfhmcpkdcaa
