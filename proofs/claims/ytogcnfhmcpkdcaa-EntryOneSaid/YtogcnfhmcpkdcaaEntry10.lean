/-
  The statement EntryOne, its walk.
-/
import Derived.Test.YtogcnfhmcpkdcaaEntry9
import Derived.Test.YtogcnfhmcpkdcaaHeld
import Derived.Test.YtogcnfhmcpkdcaaWideOps3
namespace Go.Proofs.Ytogcnfhmcpkdcaa
open Go.RowKit
set_option linter.unusedVariables false
set_option linter.unusedSimpArgs false

/-- the form of an entry, if it is right -/
def formE (x : PEntry) : List UInt8 := if rightE x = true then putE x.k.toNat x.s.toNat x.tx x.a x.y.toNat x.p.toNat else []

theorem formE_read {x : PEntry} (hx : x.tx.length = 32) (h : rightE x = true) : outE (getE (formE x)) = (x, 0) := by
  obtain ⟨K, S, Y, P, hxe, hK1, hK, hS, hA, hY, hP⟩ := right_natE h
  unfold formE
  rw [if_pos h]
  have e1 : x.k = (K : Int) := by rw [hxe]; rfl
  have e2 : x.s = (S : Int) := by rw [hxe]; rfl
  have e3 : x.y = (Y : Int) := by rw [hxe]; rfl
  have e4 : x.p = (P : Int) := by rw [hxe]; rfl
  rw [e1, e2, e3, e4, Int.toNat_natCast, Int.toNat_natCast, Int.toNat_natCast, Int.toNat_natCast, read_put hK1 hK hS hx hA hY hP, ← hxe]

theorem formE_inj {x y : PEntry} (hx : x.tx.length = 32) (hy : y.tx.length = 32) (h : rightE x = true) (h' : rightE y = true) : (decide (formE x = formE y) == eqE x y) = true := by
  have h1 := formE_read hx h
  have h2 := formE_read hy h'
  have : formE x = formE y ↔ x = y := by
    constructor
    · intro e
      rw [e, h2] at h1
      exact (Prod.mk.inj h1).1.symm
    · rintro rfl; rfl
  rw [beq_iff_eq, Bool.eq_iff_iff, decide_eq_true_iff, eqE_iff]
  exact this

/-- what is read of bytes to the end has them as its form -/
theorem formE_of {l : List UInt8} {x : PEntry} (h : outE (getE l) = (x, 0)) : rightE x = true ∧ formE x = l := by
  cases hg : getE l with
  | err e =>
    rw [hg] at h
    simp only [outE, Prod.mk.injEq] at h
    have := sane_E l e hg
    omega
  | ok v rest =>
    rw [hg] at h
    simp only [outE] at h
    by_cases hc : rest = [] ∧ v.k ≠ 0
    · rw [if_pos hc] at h
      obtain ⟨rfl, -⟩ := Prod.mk.inj h
      obtain ⟨hlen, K, S, A, Y, P, hv, hK, hS, hA, hY, hP, hl⟩ := getE_ok hg
      have hk0 := hc.2
      rw [hc.1, List.append_nil] at hl
      obtain ⟨tx, htx⟩ : ∃ tx, tx = v.tx := ⟨_, rfl⟩
      rw [← htx] at hv hl
      subst hv
      have hK1 : 1 ≤ K := by
        have h9 : (K : Int) ≠ 0 := hk0
        omega
      have hr : rightE (mkE K S tx A Y P) = true := by
        clear hk0 hc hg h
        have i1 : inRow (K : Int) 1 3 = true := by simp [inRow]; omega
        have i2 : inRow (S : Int) 0 63 = true := by simp [inRow]; omega
        have i3 : decide (A ≤ 4611686018427387904) = true := by simp; omega
        have i4 : inRow (Y : Int) 0 63 = true := by simp [inRow]; omega
        have i5 : inRow (P : Int) 0 1099511627776 = true := by simp [inRow]; omega
        show (inRow (K : Int) 1 3 && (inRow (S : Int) 0 63 && (decide (A ≤ 4611686018427387904) && (inRow (Y : Int) 0 63 && inRow (P : Int) 0 1099511627776)))) = true
        rw [i1, i2, i3, i4, i5]; rfl
      refine ⟨hr, ?_⟩
      unfold formE
      rw [if_pos hr, hl]
      simp [mkE]
    · rw [if_neg hc] at h
      have := (Prod.mk.inj h).2
      omega

theorem entryPutAny (x : PEntry) (hx : x.tx.length = 32) (w : World) :
    Calls Try.prog 60 #[.agg (eagg x)] w fun e w' => ∃ a c, e = .returned (.tuple #[.slice a (formE x).length c, .bool (rightE x)]) ∧ BsAt w' w'.heap.size a (formE x).length c (formE x) ∧ Below w.heap.size w w' := by
  cases hr : rightE x with
  | false =>
    have e0 : formE x = [] := by unfold formE; rw [hr]; rfl
    rw [e0]
    refine (entryPut_no x hx hr w).mono ?_
    rintro e w' ⟨rfl, hb⟩
    exact ⟨none, 0, rfl, BsAt.zero _ _ _ _ (by simp [maxLen]) (fun _ => rfl), hb⟩
  | true =>
    obtain ⟨K, S, Y, P, hxe, hK1, hK, hS, hA, hY, hP⟩ := right_natE hr
    have e1 : x.k = (K : Int) := by rw [hxe]; rfl
    have e2 : x.s = (S : Int) := by rw [hxe]; rfl
    have e3 : x.y = (Y : Int) := by rw [hxe]; rfl
    have e4 : x.p = (P : Int) := by rw [hxe]; rfl
    have e0 : formE x = putE K S x.tx x.a Y P := by unfold formE; rw [if_pos hr, e1, e2, e3, e4, Int.toNat_natCast, Int.toNat_natCast, Int.toNat_natCast, Int.toNat_natCast]
    rw [e0]
    have h := entryPut_yes K S x.tx x.a Y P (by rw [← hxe]; exact hr) hK hS hx hA hY hP w
    rw [← hxe] at h
    exact h

set_option maxRecDepth 100000 in
set_option maxHeartbeats 8000000 in
theorem entryOne_calls (l : List UInt8) (a : Option Addr) (n c : Nat) (x y : PEntry) (hx : x.tx.length = 32) (hy : y.tx.length = 32) (w : World) (hn : n = l.length) (h : n ≤ 100 → BsAt w w.heap.size a n c l) :
    Calls Try.prog 12 #[.slice a n c, .agg (eagg x), .agg (eagg y)] w fun e w' => e = .returned (.bool true) ∧ Below w.heap.size w w' := by
  have HX := Lib.hid hx
  have HY := Lib.hid hy
  have HXS := Lib.hid (eagg_size x hx)
  have HYS := Lib.hid (eagg_size y hy)
  have HZS := Lib.hid (eagg_size zeroE rfl)
  by_cases h100 : n ≤ 100
  · have H := Lib.hid (h h100)
    have t1 : decide ((100 : Int) < n) = false := by simp; omega
    subst hn
    obtain ⟨O, hO⟩ : ∃ O, O = outE (getE l) := ⟨_, rfl⟩
    have HO := Lib.hid hO
    have HOL := Lib.hid (show O.1.tx.length = 32 by rw [hO]; exact outE_len l)
    have HOS := Lib.hid (eagg_size O.1 HOL.out)
    clear hO h hx hy
    go_enter Try.func12, Try.ntmps12
    go_wp2_with (first
      | (refine wpList_box_abs rfl 68 (.tmp 1) rfl (eagg x) rfl ?_; intro W0 hrow0 hb0 hs0; have HROW0 := Lib.hid hrow0; have HB0 := Lib.hid hb0; clear hrow0 hb0)
      | (refine wpList_box_abs rfl 68 (.tmp 2) rfl (eagg y) rfl ?_; intro W1 hrow1 hb1 hs1; have HROW1 := Lib.hid hrow1; have HB1 := Lib.hid hb1; clear hrow1 hb1))
    have hs01 : W1.heap.size = w.heap.size + 2 := by omega
    have HRX1 := Lib.hid ((HB1.out.block w.heap.size (by omega)).trans HROW0.out)
    have hry := HROW1.out
    rw [hs0] at hry
    have HRY1 := Lib.hid hry
    have HBW1 := Lib.hid (HB0.out.trans (HB1.out.mono (by omega)))
    clear hry
    refine (entryRead l a l.length c _ ((H.out.below HBW1.out (Nat.le_refl _)).mono (by omega))).mono ?_
    rintro e w2 ⟨rfl, hb2⟩
    rw [← HO.out]
    have hs2 := hb2.size
    have HRX2 := Lib.hid ((hb2.block w.heap.size (by omega)).trans HRX1.out)
    have HRY2 := Lib.hid ((hb2.block (w.heap.size + 1) (by omega)).trans HRY1.out)
    have HBW2 := Lib.hid (HBW1.out.trans (hb2.mono (by omega)))
    clear hb2
    by_cases hc : O.2 = 0
    · have t2 : (O.2 == 0) = true := by simpa using hc
      obtain ⟨hr, hf⟩ := formE_of (l := l) (x := O.1) (by rw [← HO.out, ← hc])
      have HR := Lib.hid hr
      have HF := Lib.hid hf
      clear hc hr hf
      go_wp2_with (first
        | (refine wpList_alloc_abs rfl 68 rfl (eagg zeroE) zero_entry ?_; intro W3 hrow3 hb3 hs3; have HRW3 := Lib.hid hrow3; have HB3 := Lib.hid hb3; clear hrow3 hb3)
        | (refine wpList_store_abs rfl 68 (.tmp 7) _ rfl w2.heap.size (eagg O.1) rfl rfl 68 _ HRW3.out (by rw [HOS.out]; exact infoEntry) (by rw [HOS.out, HZS.out]) (eagg_one _) ?_; intro W4 hrow4 hoth4 hb4 hs4; have HRW4 := Lib.hid hrow4; have HB4 := Lib.hid (HB3.out.trans hb4); clear hrow4 hoth4 hb4)
        | (refine wpList_load_is rfl 68 (.tmp 7) rfl w2.heap.size rfl 68 (eagg O.1) _ HRW4.out Try.underlying68 rfl (by rw [HOS.out]; exact infoEntry) ?_))
      refine (entryPutAny O.1 HOL.out _).mono ?_
      rintro e w5 ⟨pa, pc, rfl, hbs5, hb5⟩
      rw [HR.out]
      rw [HF.out] at hbs5 ⊢
      have hs5 := hb5.size
      have hb25 : Below w2.heap.size w2 w5 := HB4.out.trans (hb5.mono (by omega))
      have HRX5 := Lib.hid ((hb25.block w.heap.size (by omega)).trans HRX2.out)
      have HRY5 := Lib.hid ((hb25.block (w.heap.size + 1) (by omega)).trans HRY2.out)
      have HBW5 := Lib.hid (HBW2.out.trans (hb25.mono (by omega)))
      have HBS5 := Lib.hid hbs5
      clear hbs5 hb5 hb25
      go_wp2_with fail
      refine (r1Bytes l l _ _ _ _ _ _ _ ((H.out.below HBW5.out (Nat.le_refl _)).mono (by omega)) HBS5.out).mono ?_
      rintro e w6 ⟨rfl, hb6⟩
      have hsT := hb6.size
      have HRXT := Lib.hid ((hb6.block w.heap.size (by omega)).trans HRX5.out)
      have HRYT := Lib.hid ((hb6.block (w.heap.size + 1) (by omega)).trans HRY5.out)
      have HBWT := Lib.hid (HBW5.out.trans (hb6.mono (by omega)))
      have hsT2 : w.heap.size + 2 ≤ w6.heap.size := by omega
      clear hb6
      simp only [decide_true]
      go_wp2_with (refine wpList_load_is rfl 68 (.tmp 4) rfl w.heap.size rfl 68 (eagg x) _ HRXT.out Try.underlying68 rfl (by rw [HXS.out]; exact infoEntry) ?_)
      all_goals
        refine (entryPutAny x HX.out _).mono ?_
        rintro e wA ⟨xa, xc, rfl, hbsx, hbA⟩
        have hsA := hbA.size
        have HRXA := Lib.hid ((hbA.block w.heap.size (by omega)).trans HRXT.out)
        have HRYA := Lib.hid ((hbA.block (w.heap.size + 1) (by omega)).trans HRYT.out)
        have HBWA := Lib.hid (HBWT.out.trans (hbA.mono (by omega)))
        have HBSX := Lib.hid hbsx
        clear hbsx hbA
        go_wp2_with (refine wpList_load_is rfl 68 (.tmp 5) rfl (w.heap.size + 1) rfl 68 (eagg y) _ HRYA.out Try.underlying68 rfl (by rw [HYS.out]; exact infoEntry) ?_)
        refine (entryPutAny y HY.out _).mono ?_
        rintro e wB ⟨ya, yc, rfl, hbsy, hbB⟩
        have hsB := hbB.size
        have HRXB := Lib.hid ((hbB.block w.heap.size (by omega)).trans HRXA.out)
        have HRYB := Lib.hid ((hbB.block (w.heap.size + 1) (by omega)).trans HRYA.out)
        have HBWB := Lib.hid (HBWA.out.trans (hbB.mono (by omega)))
        have HBSXB := Lib.hid ((HBSX.out.below hbB (Nat.le_refl _)).mono hsB)
        have HBSY := Lib.hid hbsy
        clear hbsy hbB
        cases hu : rightE x with
        | false =>
          clear hu
          go_wp2
          refine wp_region_any (by kernel_rfl) ?_
          refine wpAny_of_held (S := fun w' => w'.heap[w.heap.size]? = some (.cells (eagg x) 68 (0, 0)) ∧ w'.heap[w.heap.size + 1]? = some (.cells (eagg y) 68 (0, 0))) _ _ _ _ ?_
          have hS0 : wB.drew.heap[w.heap.size]? = some (.cells (eagg x) 68 (0, 0)) ∧ wB.drew.heap[w.heap.size + 1]? = some (.cells (eagg y) 68 (0, 0)) := ⟨HRXB.out, HRYB.out⟩
          refine heldTake 0 49 rfl rfl (by kernel_rfl) (by kernel_rfl) (by kernel_rfl) (fun _ _ _ h => h) hS0 (.inl ⟨by rfl, by intro w' hS; (try dsimp only at hS); go_simp; (try rfl)⟩) ?_
          simp only [List.set_cons_zero, List.set_cons_succ]
          refine heldTake 1 50 rfl rfl (by kernel_rfl) (by kernel_rfl) (by kernel_rfl) (fun _ _ _ h => h) hS0 (.inl ⟨by rfl, by intro w' hS; (try dsimp only at hS); go_simp; (try rfl)⟩) ?_
          simp only [List.set_cons_zero, List.set_cons_succ]
          refine heldTake 2 51 rfl rfl (by kernel_rfl) (by kernel_rfl) (by kernel_rfl) (fun _ _ _ h => h) hS0 (.inl ⟨by rfl, by intro w' hS; (try dsimp only at hS); go_simp; (try rfl)⟩) ?_
          simp only [List.set_cons_zero, List.set_cons_succ]
          refine heldTake 3 52 rfl rfl (by kernel_rfl) (by kernel_rfl) (by kernel_rfl) (fun _ _ _ h => h) hS0 (.inr ⟨by rfl, rfl⟩) ?_
          simp only [List.set_cons_zero, List.set_cons_succ]
          refine heldTake 4 53 rfl rfl (by kernel_rfl) (by kernel_rfl) (by kernel_rfl) (fun _ _ _ h => h) hS0 (.inr ⟨by rfl, rfl⟩) ?_
          simp only [List.set_cons_zero, List.set_cons_succ]
          refine heldTake 5 54 rfl rfl (by kernel_rfl) (by kernel_rfl) (by kernel_rfl) (fun _ _ _ h => h) hS0 (.inl ⟨by rfl, by intro w' hS; (try dsimp only at hS); go_simp; (try rfl)⟩) ?_
          simp only [List.set_cons_zero, List.set_cons_succ]
          refine heldTake 6 55 rfl rfl (by kernel_rfl) (by kernel_rfl) (by kernel_rfl) (fun _ _ _ h => h) hS0 (.inl ⟨by rfl, by intro w' hS; (try dsimp only at hS); go_simp; (try rfl)⟩) ?_
          simp only [List.set_cons_zero, List.set_cons_succ]
          refine heldTake 7 56 rfl rfl (by kernel_rfl) (by kernel_rfl) (by kernel_rfl) (fun _ _ _ h => h) hS0 (.inr ⟨by rfl, rfl⟩) ?_
          simp only [List.set_cons_zero, List.set_cons_succ]
          refine heldTake 8 57 rfl rfl (by kernel_rfl) (by kernel_rfl) (by kernel_rfl) (fun _ _ _ h => h) hS0 (.inr ⟨by rfl, rfl⟩) ?_
          simp only [List.set_cons_zero, List.set_cons_succ]
          refine heldTake 9 58 rfl rfl (by kernel_rfl) (by kernel_rfl) (by kernel_rfl) (fun _ _ _ h => h) hS0 (.inr ⟨by rfl, rfl⟩) ?_
          simp only [List.set_cons_zero, List.set_cons_succ]
          refine heldTake 10 59 rfl rfl (by kernel_rfl) (by kernel_rfl) (by kernel_rfl) (fun _ _ _ h => h) hS0 (.inr ⟨by rfl, rfl⟩) ?_
          simp only [List.set_cons_zero, List.set_cons_succ]
          refine heldTake 11 60 rfl rfl (by kernel_rfl) (by kernel_rfl) (by kernel_rfl) (fun _ _ _ h => h) hS0 (.inr ⟨by rfl, rfl⟩) ?_
          simp only [List.set_cons_zero, List.set_cons_succ]
          refine heldTake 12 61 rfl rfl (by kernel_rfl) (by kernel_rfl) (by kernel_rfl) (fun _ _ _ h => h) hS0 (.inr ⟨by rfl, rfl⟩) ?_
          simp only [List.set_cons_zero, List.set_cons_succ]
          refine heldTake 13 62 rfl rfl (by kernel_rfl) (by kernel_rfl) (by kernel_rfl) (fun _ _ _ h => h) hS0 (.inr ⟨by rfl, rfl⟩) ?_
          simp only [List.set_cons_zero, List.set_cons_succ]
          refine heldTake 14 63 rfl rfl (by kernel_rfl) (by kernel_rfl) (by kernel_rfl) (fun _ _ _ h => h) hS0 (.inl ⟨by rfl, by intro w' hS; (try dsimp only at hS); go_simp; (try rfl)⟩) ?_
          simp only [List.set_cons_zero, List.set_cons_succ]
          refine heldTake 15 64 rfl rfl (by kernel_rfl) (by kernel_rfl) (by kernel_rfl) (fun _ _ _ h => h) hS0 (.inl ⟨by rfl, by intro w' hS; (try dsimp only at hS); go_simp; (try rfl)⟩) ?_
          simp only [List.set_cons_zero, List.set_cons_succ]
          refine heldOne 16 (by kernel_rfl) rfl (by rfl) ?_
          go_simp
          refine (l9awake _).mono ?_
          rintro e w9 ⟨rfl, hb9⟩
          have hS9 : w9.heap[w.heap.size]? = some (.cells (eagg x) 68 (0, 0)) ∧ w9.heap[w.heap.size + 1]? = some (.cells (eagg y) 68 (0, 0)) := ⟨(hb9.block _ (by show _ < wB.heap.size; omega)).trans hS0.1, (hb9.block _ (by show _ < wB.heap.size; omega)).trans hS0.2⟩
          refine ⟨hS9, ?_⟩
          refine heldTake 17 66 rfl rfl (by kernel_rfl) (by kernel_rfl) (by kernel_rfl) (fun _ _ _ h => h) hS9 (.inl ⟨by rfl, by intro w' hS; (try dsimp only at hS); go_simp; (try rfl)⟩) ?_
          simp only [List.set_cons_zero, List.set_cons_succ]
          refine heldTake 18 6 rfl rfl (by kernel_rfl) (by kernel_rfl) (by kernel_rfl) (fun _ _ _ h => h) hS9 (.inl ⟨by rfl, by intro w' hS; (try dsimp only at hS); go_simp; (try rfl)⟩) ?_
          simp only [List.set_cons_zero, List.set_cons_succ]
          refine wpAnyH_done (by kernel_rfl) ?_ _
          have HB9 := Lib.hid (HBWB.out.trans ((Below.refl _ wB).drew.trans (hb9.mono (by show w.heap.size ≤ wB.heap.size; omega))))
          clear hb9 hS0 hS9
          go_wp2
          go_ret
          exact ⟨rfl, HB9.out⟩
        | true =>
          cases hv : rightE y with
          | false =>
            clear hu hv
            go_wp2
            refine wp_region_any (by kernel_rfl) ?_
            refine wpAny_of_held (S := fun w' => w'.heap[w.heap.size]? = some (.cells (eagg x) 68 (0, 0)) ∧ w'.heap[w.heap.size + 1]? = some (.cells (eagg y) 68 (0, 0))) _ _ _ _ ?_
            have hS0 : wB.drew.heap[w.heap.size]? = some (.cells (eagg x) 68 (0, 0)) ∧ wB.drew.heap[w.heap.size + 1]? = some (.cells (eagg y) 68 (0, 0)) := ⟨HRXB.out, HRYB.out⟩
            refine heldTake 0 49 rfl rfl (by kernel_rfl) (by kernel_rfl) (by kernel_rfl) (fun _ _ _ h => h) hS0 (.inl ⟨by rfl, by intro w' hS; (try dsimp only at hS); go_simp; (try rfl)⟩) ?_
            simp only [List.set_cons_zero, List.set_cons_succ]
            refine heldTake 1 50 rfl rfl (by kernel_rfl) (by kernel_rfl) (by kernel_rfl) (fun _ _ _ h => h) hS0 (.inl ⟨by rfl, by intro w' hS; (try dsimp only at hS); go_simp; (try rfl)⟩) ?_
            simp only [List.set_cons_zero, List.set_cons_succ]
            refine heldTake 2 51 rfl rfl (by kernel_rfl) (by kernel_rfl) (by kernel_rfl) (fun _ _ _ h => h) hS0 (.inl ⟨by rfl, by intro w' hS; (try dsimp only at hS); go_simp; (try rfl)⟩) ?_
            simp only [List.set_cons_zero, List.set_cons_succ]
            refine heldTake 3 52 rfl rfl (by kernel_rfl) (by kernel_rfl) (by kernel_rfl) (fun _ _ _ h => h) hS0 (.inl ⟨by rfl, by intro w' hS; (try dsimp only at hS); go_simp; (try rfl)⟩) ?_
            simp only [List.set_cons_zero, List.set_cons_succ]
            refine heldTake 4 53 rfl rfl (by kernel_rfl) (by kernel_rfl) (by kernel_rfl) (fun _ _ _ h => h) hS0 (.inl ⟨by rfl, by intro w' hS; (try dsimp only at hS); go_simp; (try rfl)⟩) ?_
            simp only [List.set_cons_zero, List.set_cons_succ]
            refine heldTake 5 54 rfl rfl (by kernel_rfl) (by kernel_rfl) (by kernel_rfl) (fun _ _ _ h => h) hS0 (.inl ⟨by rfl, by intro w' hS; (try dsimp only at hS); go_simp; (try rfl)⟩) ?_
            simp only [List.set_cons_zero, List.set_cons_succ]
            refine heldTake 6 55 rfl rfl (by kernel_rfl) (by kernel_rfl) (by kernel_rfl) (fun _ _ _ h => h) hS0 (.inl ⟨by rfl, by intro w' hS; (try dsimp only at hS); go_simp; (try rfl)⟩) ?_
            simp only [List.set_cons_zero, List.set_cons_succ]
            refine heldTake 7 56 rfl rfl (by kernel_rfl) (by kernel_rfl) (by kernel_rfl) (fun _ _ _ h => h) hS0 (.inr ⟨by rfl, rfl⟩) ?_
            simp only [List.set_cons_zero, List.set_cons_succ]
            refine heldTake 8 57 rfl rfl (by kernel_rfl) (by kernel_rfl) (by kernel_rfl) (fun _ _ _ h => h) hS0 (.inr ⟨by rfl, rfl⟩) ?_
            simp only [List.set_cons_zero, List.set_cons_succ]
            refine heldTake 9 58 rfl rfl (by kernel_rfl) (by kernel_rfl) (by kernel_rfl) (fun _ _ _ h => h) hS0 (.inr ⟨by rfl, rfl⟩) ?_
            simp only [List.set_cons_zero, List.set_cons_succ]
            refine heldTake 10 59 rfl rfl (by kernel_rfl) (by kernel_rfl) (by kernel_rfl) (fun _ _ _ h => h) hS0 (.inr ⟨by rfl, rfl⟩) ?_
            simp only [List.set_cons_zero, List.set_cons_succ]
            refine heldTake 11 60 rfl rfl (by kernel_rfl) (by kernel_rfl) (by kernel_rfl) (fun _ _ _ h => h) hS0 (.inr ⟨by rfl, rfl⟩) ?_
            simp only [List.set_cons_zero, List.set_cons_succ]
            refine heldTake 12 61 rfl rfl (by kernel_rfl) (by kernel_rfl) (by kernel_rfl) (fun _ _ _ h => h) hS0 (.inr ⟨by rfl, rfl⟩) ?_
            simp only [List.set_cons_zero, List.set_cons_succ]
            refine heldTake 13 62 rfl rfl (by kernel_rfl) (by kernel_rfl) (by kernel_rfl) (fun _ _ _ h => h) hS0 (.inr ⟨by rfl, rfl⟩) ?_
            simp only [List.set_cons_zero, List.set_cons_succ]
            refine heldTake 14 63 rfl rfl (by kernel_rfl) (by kernel_rfl) (by kernel_rfl) (fun _ _ _ h => h) hS0 (.inl ⟨by rfl, by intro w' hS; (try dsimp only at hS); go_simp; (try rfl)⟩) ?_
            simp only [List.set_cons_zero, List.set_cons_succ]
            refine heldTake 15 64 rfl rfl (by kernel_rfl) (by kernel_rfl) (by kernel_rfl) (fun _ _ _ h => h) hS0 (.inl ⟨by rfl, by intro w' hS; (try dsimp only at hS); go_simp; (try rfl)⟩) ?_
            simp only [List.set_cons_zero, List.set_cons_succ]
            refine heldOne 16 (by kernel_rfl) rfl (by rfl) ?_
            go_simp
            refine (l9awake _).mono ?_
            rintro e w9 ⟨rfl, hb9⟩
            have hS9 : w9.heap[w.heap.size]? = some (.cells (eagg x) 68 (0, 0)) ∧ w9.heap[w.heap.size + 1]? = some (.cells (eagg y) 68 (0, 0)) := ⟨(hb9.block _ (by show _ < wB.heap.size; omega)).trans hS0.1, (hb9.block _ (by show _ < wB.heap.size; omega)).trans hS0.2⟩
            refine ⟨hS9, ?_⟩
            refine heldTake 17 66 rfl rfl (by kernel_rfl) (by kernel_rfl) (by kernel_rfl) (fun _ _ _ h => h) hS9 (.inl ⟨by rfl, by intro w' hS; (try dsimp only at hS); go_simp; (try rfl)⟩) ?_
            simp only [List.set_cons_zero, List.set_cons_succ]
            refine heldTake 18 6 rfl rfl (by kernel_rfl) (by kernel_rfl) (by kernel_rfl) (fun _ _ _ h => h) hS9 (.inl ⟨by rfl, by intro w' hS; (try dsimp only at hS); go_simp; (try rfl)⟩) ?_
            simp only [List.set_cons_zero, List.set_cons_succ]
            refine wpAnyH_done (by kernel_rfl) ?_ _
            have HB9 := Lib.hid (HBWB.out.trans ((Below.refl _ wB).drew.trans (hb9.mono (by show w.heap.size ≤ wB.heap.size; omega))))
            clear hb9 hS0 hS9
            go_wp2
            go_ret
            exact ⟨rfl, HB9.out⟩
          | true =>
            have hinj := formE_inj HX.out HY.out hu hv
            have heq : ∀ W : World, (binOp .eql 68 (.agg (eagg x)) (.agg (eagg y))).run Try.prog W = .ok (.bool (eqE x y)) W := run_eql_entry x y HX.out HY.out
            obtain ⟨d1, hd1⟩ : ∃ d1, decide (formE x = formE y) = d1 := ⟨_, rfl⟩
            obtain ⟨d2, hd2⟩ : ∃ d2, eqE x y = d2 := ⟨_, rfl⟩
            rw [hd1, hd2] at hinj
            rw [hd2] at heq
            have HD1 := Lib.hid hd1
            have HINJ := Lib.hid hinj
            clear hu hv hinj hd1 hd2
            go_wp2
            refine wp_region_any (by kernel_rfl) ?_
            refine wpAny_of_held (S := fun w' => w'.heap[w.heap.size]? = some (.cells (eagg x) 68 (0, 0)) ∧ w'.heap[w.heap.size + 1]? = some (.cells (eagg y) 68 (0, 0))) _ _ _ _ ?_
            have hS0 : wB.drew.heap[w.heap.size]? = some (.cells (eagg x) 68 (0, 0)) ∧ wB.drew.heap[w.heap.size + 1]? = some (.cells (eagg y) 68 (0, 0)) := ⟨HRXB.out, HRYB.out⟩
            refine heldTake 0 49 rfl rfl (by kernel_rfl) (by kernel_rfl) (by kernel_rfl) (fun _ _ _ h => h) hS0 (.inl ⟨by rfl, by intro w' hS; (try dsimp only at hS); go_simp; (try rfl)⟩) ?_
            simp only [List.set_cons_zero, List.set_cons_succ]
            refine heldTake 1 50 rfl rfl (by kernel_rfl) (by kernel_rfl) (by kernel_rfl) (fun _ _ _ h => h) hS0 (.inl ⟨by rfl, by intro w' hS; (try dsimp only at hS); go_simp; (try rfl)⟩) ?_
            simp only [List.set_cons_zero, List.set_cons_succ]
            refine heldTake 2 51 rfl rfl (by kernel_rfl) (by kernel_rfl) (by kernel_rfl) (fun _ _ _ h => h) hS0 (.inl ⟨by rfl, by intro w' hS; (try dsimp only at hS); go_simp; (try rfl)⟩) ?_
            simp only [List.set_cons_zero, List.set_cons_succ]
            refine heldTake 3 52 rfl rfl (by kernel_rfl) (by kernel_rfl) (by kernel_rfl) (fun _ _ _ h => h) hS0 (.inl ⟨by rfl, by intro w' hS; (try dsimp only at hS); go_simp; (try rfl)⟩) ?_
            simp only [List.set_cons_zero, List.set_cons_succ]
            refine heldTake 4 53 rfl rfl (by kernel_rfl) (by kernel_rfl) (by kernel_rfl) (fun _ _ _ h => h) hS0 (.inl ⟨by rfl, by intro w' hS; (try dsimp only at hS); go_simp; (try rfl)⟩) ?_
            simp only [List.set_cons_zero, List.set_cons_succ]
            refine heldTake 5 54 rfl rfl (by kernel_rfl) (by kernel_rfl) (by kernel_rfl) (fun _ _ _ h => h) hS0 (.inl ⟨by rfl, by intro w' hS; (try dsimp only at hS); go_simp; (try rfl)⟩) ?_
            simp only [List.set_cons_zero, List.set_cons_succ]
            refine heldTake 6 55 rfl rfl (by kernel_rfl) (by kernel_rfl) (by kernel_rfl) (fun _ _ _ h => h) hS0 (.inl ⟨by rfl, by intro w' hS; (try dsimp only at hS); go_simp; (try rfl)⟩) ?_
            simp only [List.set_cons_zero, List.set_cons_succ]
            refine heldTake 7 56 rfl rfl (by kernel_rfl) (by kernel_rfl) (by kernel_rfl) (fun _ _ _ h => h) hS0 (.inl ⟨by rfl, by intro w' hS; (try dsimp only at hS); go_simp; (try rfl)⟩) ?_
            simp only [List.set_cons_zero, List.set_cons_succ]
            refine heldTake 8 57 rfl rfl (by kernel_rfl) (by kernel_rfl) (by kernel_rfl) (fun _ _ _ h => h) hS0 (.inl ⟨by rfl, by intro w' hS; (try dsimp only at hS); go_simp; (try rfl)⟩) ?_
            simp only [List.set_cons_zero, List.set_cons_succ]
            refine heldTake 10 59 rfl rfl (by kernel_rfl) (by kernel_rfl) (by kernel_rfl) (fun _ _ _ h => h) hS0 (yieldsIf_load_is (by rfl) 68 (.tmp 4) rfl w.heap.size rfl 68 (eagg x) _ (fun _ h => h.1) Try.underlying68 rfl (by rw [HXS.out]; exact infoEntry)) ?_
            simp only [List.set_cons_zero, List.set_cons_succ]
            refine heldTake 11 60 rfl rfl (by kernel_rfl) (by kernel_rfl) (by kernel_rfl) (fun _ _ _ h => h) hS0 (yieldsIf_load_is (by rfl) 68 (.tmp 5) rfl (w.heap.size + 1) rfl 68 (eagg y) _ (fun _ h => h.2) Try.underlying68 rfl (by rw [HYS.out]; exact infoEntry)) ?_
            simp only [List.set_cons_zero, List.set_cons_succ]
            refine heldTake 12 61 rfl rfl (by kernel_rfl) (by kernel_rfl) (by kernel_rfl) (fun _ _ _ h => h) hS0 (.inl ⟨by rfl, by intro w' hS; (try dsimp only at hS); go_simp; (try rfl)⟩) ?_
            simp only [List.set_cons_zero, List.set_cons_succ]
            refine heldOne 9 (by kernel_rfl) rfl (by rfl) ?_
            go_simp
            refine (r1Bytes (formE x) (formE y) _ _ _ _ _ _ wB.drew (HBSXB.out.below (w' := wB.drew) (Below.refl _ _).drew (Nat.le_refl _)) (HBSY.out.below (w' := wB.drew) (Below.refl _ _).drew (Nat.le_refl _))).mono ?_
            rintro e w8 ⟨rfl, hb8⟩
            rw [HD1.out]
            have hs8 : wB.heap.size ≤ w8.heap.size := hb8.size
            have hS8 : w8.heap[w.heap.size]? = some (.cells (eagg x) 68 (0, 0)) ∧ w8.heap[w.heap.size + 1]? = some (.cells (eagg y) 68 (0, 0)) := ⟨(hb8.block _ (by show _ < wB.heap.size; omega)).trans hS0.1, (hb8.block _ (by show _ < wB.heap.size; omega)).trans hS0.2⟩
            refine ⟨hS8, ?_⟩
            refine heldTake 13 62 (v := .bool true) rfl rfl (by kernel_rfl) (by kernel_rfl) (by kernel_rfl) (fun _ _ _ h => h) hS8 (.inl ⟨by rfl, by intro w' hS; clear hS heq; go_simp; exact beq_iff_eq.1 HINJ.out⟩) ?_
            simp only [List.set_cons_zero, List.set_cons_succ]
            refine heldTake 14 63 rfl rfl (by kernel_rfl) (by kernel_rfl) (by kernel_rfl) (fun _ _ _ h => h) hS8 (.inl ⟨by rfl, by intro w' hS; (try dsimp only at hS); go_simp; (try rfl)⟩) ?_
            simp only [List.set_cons_zero, List.set_cons_succ]
            refine heldTake 15 64 rfl rfl (by kernel_rfl) (by kernel_rfl) (by kernel_rfl) (fun _ _ _ h => h) hS8 (.inl ⟨by rfl, by intro w' hS; (try dsimp only at hS); go_simp; (try rfl)⟩) ?_
            simp only [List.set_cons_zero, List.set_cons_succ]
            refine heldOne 16 (by kernel_rfl) rfl (by rfl) ?_
            go_simp
            refine (l9awake _).mono ?_
            rintro e w9 ⟨rfl, hb9⟩
            have HB9 := Lib.hid (HBWB.out.trans ((Below.refl _ wB).drew.trans ((hb8.mono (by show w.heap.size ≤ wB.heap.size; omega)).trans (hb9.mono (by omega)))))
            refine ⟨⟨(hb9.block _ (by omega)).trans hS8.1, (hb9.block _ (by omega)).trans hS8.2⟩, ?_⟩
            have hS9 : w9.heap[w.heap.size]? = some (.cells (eagg x) 68 (0, 0)) ∧ w9.heap[w.heap.size + 1]? = some (.cells (eagg y) 68 (0, 0)) := ⟨(hb9.block _ (by omega)).trans hS8.1, (hb9.block _ (by omega)).trans hS8.2⟩
            refine heldTake 17 66 rfl rfl (by kernel_rfl) (by kernel_rfl) (by kernel_rfl) (fun _ _ _ h => h) hS9 (.inl ⟨by rfl, by intro w' hS; (try dsimp only at hS); go_simp; (try rfl)⟩) ?_
            simp only [List.set_cons_zero, List.set_cons_succ]
            refine heldTake 18 6 rfl rfl (by kernel_rfl) (by kernel_rfl) (by kernel_rfl) (fun _ _ _ h => h) hS9 (.inl ⟨by rfl, by intro w' hS; (try dsimp only at hS); go_simp; (try rfl)⟩) ?_
            simp only [List.set_cons_zero, List.set_cons_succ]
            refine wpAnyH_done (by kernel_rfl) ?_ _
            clear hb8 hb9 hS0 hS8 hS9 heq
            go_wp2
            go_ret
            exact ⟨rfl, HB9.out⟩
    · have t2 : (O.2 == 0) = false := by simpa using hc
      clear hc
      go_wp2_with (first
        | (refine wpList_alloc_abs rfl 68 rfl (eagg zeroE) zero_entry ?_; intro W3 hrow3 hb3 hs3; have HRW3 := Lib.hid hrow3; have HB3 := Lib.hid hb3; clear hrow3 hb3)
        | (refine wpList_store_abs rfl 68 (.tmp 7) _ rfl w2.heap.size (eagg O.1) rfl rfl 68 _ HRW3.out (by rw [HOS.out]; exact infoEntry) (by rw [HOS.out, HZS.out]) (eagg_one _) ?_; intro W4 hrow4 hoth4 hb4 hs4; have HB4 := Lib.hid (HB3.out.trans hb4); clear hrow4 hoth4 hb4; have HRXT := Lib.hid ((HB4.out.block w.heap.size (by omega)).trans HRX2.out); have HRYT := Lib.hid ((HB4.out.block (w.heap.size + 1) (by omega)).trans HRY2.out); have HBWT := Lib.hid (HBW2.out.trans (HB4.out.mono (by omega))); have hsT2 : w.heap.size + 2 ≤ W4.heap.size := (by omega))
        | (refine wpList_load_is rfl 68 (.tmp 4) rfl w.heap.size rfl 68 (eagg x) _ HRXT.out Try.underlying68 rfl (by rw [HXS.out]; exact infoEntry) ?_))
      all_goals
        refine (entryPutAny x HX.out _).mono ?_
        rintro e wA ⟨xa, xc, rfl, hbsx, hbA⟩
        have hsA := hbA.size
        have HRXA := Lib.hid ((hbA.block w.heap.size (by omega)).trans HRXT.out)
        have HRYA := Lib.hid ((hbA.block (w.heap.size + 1) (by omega)).trans HRYT.out)
        have HBWA := Lib.hid (HBWT.out.trans (hbA.mono (by omega)))
        have HBSX := Lib.hid hbsx
        clear hbsx hbA
        go_wp2_with (refine wpList_load_is rfl 68 (.tmp 5) rfl (w.heap.size + 1) rfl 68 (eagg y) _ HRYA.out Try.underlying68 rfl (by rw [HYS.out]; exact infoEntry) ?_)
        refine (entryPutAny y HY.out _).mono ?_
        rintro e wB ⟨ya, yc, rfl, hbsy, hbB⟩
        have hsB := hbB.size
        have HRXB := Lib.hid ((hbB.block w.heap.size (by omega)).trans HRXA.out)
        have HRYB := Lib.hid ((hbB.block (w.heap.size + 1) (by omega)).trans HRYA.out)
        have HBWB := Lib.hid (HBWA.out.trans (hbB.mono (by omega)))
        have HBSXB := Lib.hid ((HBSX.out.below hbB (Nat.le_refl _)).mono hsB)
        have HBSY := Lib.hid hbsy
        clear hbsy hbB
        cases hu : rightE x with
        | false =>
          clear hu
          go_wp2
          refine wp_region_any (by kernel_rfl) ?_
          refine wpAny_of_held (S := fun w' => w'.heap[w.heap.size]? = some (.cells (eagg x) 68 (0, 0)) ∧ w'.heap[w.heap.size + 1]? = some (.cells (eagg y) 68 (0, 0))) _ _ _ _ ?_
          have hS0 : wB.drew.heap[w.heap.size]? = some (.cells (eagg x) 68 (0, 0)) ∧ wB.drew.heap[w.heap.size + 1]? = some (.cells (eagg y) 68 (0, 0)) := ⟨HRXB.out, HRYB.out⟩
          refine heldTake 0 49 rfl rfl (by kernel_rfl) (by kernel_rfl) (by kernel_rfl) (fun _ _ _ h => h) hS0 (.inl ⟨by rfl, by intro w' hS; (try dsimp only at hS); go_simp; (try rfl)⟩) ?_
          simp only [List.set_cons_zero, List.set_cons_succ]
          refine heldTake 1 50 rfl rfl (by kernel_rfl) (by kernel_rfl) (by kernel_rfl) (fun _ _ _ h => h) hS0 (.inl ⟨by rfl, by intro w' hS; (try dsimp only at hS); go_simp; (try rfl)⟩) ?_
          simp only [List.set_cons_zero, List.set_cons_succ]
          refine heldTake 2 51 rfl rfl (by kernel_rfl) (by kernel_rfl) (by kernel_rfl) (fun _ _ _ h => h) hS0 (.inl ⟨by rfl, by intro w' hS; (try dsimp only at hS); go_simp; (try rfl)⟩) ?_
          simp only [List.set_cons_zero, List.set_cons_succ]
          refine heldTake 3 52 rfl rfl (by kernel_rfl) (by kernel_rfl) (by kernel_rfl) (fun _ _ _ h => h) hS0 (.inr ⟨by rfl, rfl⟩) ?_
          simp only [List.set_cons_zero, List.set_cons_succ]
          refine heldTake 4 53 rfl rfl (by kernel_rfl) (by kernel_rfl) (by kernel_rfl) (fun _ _ _ h => h) hS0 (.inr ⟨by rfl, rfl⟩) ?_
          simp only [List.set_cons_zero, List.set_cons_succ]
          refine heldTake 5 54 rfl rfl (by kernel_rfl) (by kernel_rfl) (by kernel_rfl) (fun _ _ _ h => h) hS0 (.inl ⟨by rfl, by intro w' hS; (try dsimp only at hS); go_simp; (try rfl)⟩) ?_
          simp only [List.set_cons_zero, List.set_cons_succ]
          refine heldTake 6 55 rfl rfl (by kernel_rfl) (by kernel_rfl) (by kernel_rfl) (fun _ _ _ h => h) hS0 (.inl ⟨by rfl, by intro w' hS; (try dsimp only at hS); go_simp; (try rfl)⟩) ?_
          simp only [List.set_cons_zero, List.set_cons_succ]
          refine heldTake 7 56 rfl rfl (by kernel_rfl) (by kernel_rfl) (by kernel_rfl) (fun _ _ _ h => h) hS0 (.inr ⟨by rfl, rfl⟩) ?_
          simp only [List.set_cons_zero, List.set_cons_succ]
          refine heldTake 8 57 rfl rfl (by kernel_rfl) (by kernel_rfl) (by kernel_rfl) (fun _ _ _ h => h) hS0 (.inr ⟨by rfl, rfl⟩) ?_
          simp only [List.set_cons_zero, List.set_cons_succ]
          refine heldTake 9 58 rfl rfl (by kernel_rfl) (by kernel_rfl) (by kernel_rfl) (fun _ _ _ h => h) hS0 (.inr ⟨by rfl, rfl⟩) ?_
          simp only [List.set_cons_zero, List.set_cons_succ]
          refine heldTake 10 59 rfl rfl (by kernel_rfl) (by kernel_rfl) (by kernel_rfl) (fun _ _ _ h => h) hS0 (.inr ⟨by rfl, rfl⟩) ?_
          simp only [List.set_cons_zero, List.set_cons_succ]
          refine heldTake 11 60 rfl rfl (by kernel_rfl) (by kernel_rfl) (by kernel_rfl) (fun _ _ _ h => h) hS0 (.inr ⟨by rfl, rfl⟩) ?_
          simp only [List.set_cons_zero, List.set_cons_succ]
          refine heldTake 12 61 rfl rfl (by kernel_rfl) (by kernel_rfl) (by kernel_rfl) (fun _ _ _ h => h) hS0 (.inr ⟨by rfl, rfl⟩) ?_
          simp only [List.set_cons_zero, List.set_cons_succ]
          refine heldTake 13 62 rfl rfl (by kernel_rfl) (by kernel_rfl) (by kernel_rfl) (fun _ _ _ h => h) hS0 (.inr ⟨by rfl, rfl⟩) ?_
          simp only [List.set_cons_zero, List.set_cons_succ]
          refine heldTake 14 63 rfl rfl (by kernel_rfl) (by kernel_rfl) (by kernel_rfl) (fun _ _ _ h => h) hS0 (.inl ⟨by rfl, by intro w' hS; (try dsimp only at hS); go_simp; (try rfl)⟩) ?_
          simp only [List.set_cons_zero, List.set_cons_succ]
          refine heldTake 15 64 rfl rfl (by kernel_rfl) (by kernel_rfl) (by kernel_rfl) (fun _ _ _ h => h) hS0 (.inl ⟨by rfl, by intro w' hS; (try dsimp only at hS); go_simp; (try rfl)⟩) ?_
          simp only [List.set_cons_zero, List.set_cons_succ]
          refine heldOne 16 (by kernel_rfl) rfl (by rfl) ?_
          go_simp
          refine (l9awake _).mono ?_
          rintro e w9 ⟨rfl, hb9⟩
          have hS9 : w9.heap[w.heap.size]? = some (.cells (eagg x) 68 (0, 0)) ∧ w9.heap[w.heap.size + 1]? = some (.cells (eagg y) 68 (0, 0)) := ⟨(hb9.block _ (by show _ < wB.heap.size; omega)).trans hS0.1, (hb9.block _ (by show _ < wB.heap.size; omega)).trans hS0.2⟩
          refine ⟨hS9, ?_⟩
          refine heldTake 17 66 rfl rfl (by kernel_rfl) (by kernel_rfl) (by kernel_rfl) (fun _ _ _ h => h) hS9 (.inl ⟨by rfl, by intro w' hS; (try dsimp only at hS); go_simp; (try rfl)⟩) ?_
          simp only [List.set_cons_zero, List.set_cons_succ]
          refine heldTake 18 6 rfl rfl (by kernel_rfl) (by kernel_rfl) (by kernel_rfl) (fun _ _ _ h => h) hS9 (.inl ⟨by rfl, by intro w' hS; (try dsimp only at hS); go_simp; (try rfl)⟩) ?_
          simp only [List.set_cons_zero, List.set_cons_succ]
          refine wpAnyH_done (by kernel_rfl) ?_ _
          have HB9 := Lib.hid (HBWB.out.trans ((Below.refl _ wB).drew.trans (hb9.mono (by show w.heap.size ≤ wB.heap.size; omega))))
          clear hb9 hS0 hS9
          go_wp2
          go_ret
          exact ⟨rfl, HB9.out⟩
        | true =>
          cases hv : rightE y with
          | false =>
            clear hu hv
            go_wp2
            refine wp_region_any (by kernel_rfl) ?_
            refine wpAny_of_held (S := fun w' => w'.heap[w.heap.size]? = some (.cells (eagg x) 68 (0, 0)) ∧ w'.heap[w.heap.size + 1]? = some (.cells (eagg y) 68 (0, 0))) _ _ _ _ ?_
            have hS0 : wB.drew.heap[w.heap.size]? = some (.cells (eagg x) 68 (0, 0)) ∧ wB.drew.heap[w.heap.size + 1]? = some (.cells (eagg y) 68 (0, 0)) := ⟨HRXB.out, HRYB.out⟩
            refine heldTake 0 49 rfl rfl (by kernel_rfl) (by kernel_rfl) (by kernel_rfl) (fun _ _ _ h => h) hS0 (.inl ⟨by rfl, by intro w' hS; (try dsimp only at hS); go_simp; (try rfl)⟩) ?_
            simp only [List.set_cons_zero, List.set_cons_succ]
            refine heldTake 1 50 rfl rfl (by kernel_rfl) (by kernel_rfl) (by kernel_rfl) (fun _ _ _ h => h) hS0 (.inl ⟨by rfl, by intro w' hS; (try dsimp only at hS); go_simp; (try rfl)⟩) ?_
            simp only [List.set_cons_zero, List.set_cons_succ]
            refine heldTake 2 51 rfl rfl (by kernel_rfl) (by kernel_rfl) (by kernel_rfl) (fun _ _ _ h => h) hS0 (.inl ⟨by rfl, by intro w' hS; (try dsimp only at hS); go_simp; (try rfl)⟩) ?_
            simp only [List.set_cons_zero, List.set_cons_succ]
            refine heldTake 3 52 rfl rfl (by kernel_rfl) (by kernel_rfl) (by kernel_rfl) (fun _ _ _ h => h) hS0 (.inl ⟨by rfl, by intro w' hS; (try dsimp only at hS); go_simp; (try rfl)⟩) ?_
            simp only [List.set_cons_zero, List.set_cons_succ]
            refine heldTake 4 53 rfl rfl (by kernel_rfl) (by kernel_rfl) (by kernel_rfl) (fun _ _ _ h => h) hS0 (.inl ⟨by rfl, by intro w' hS; (try dsimp only at hS); go_simp; (try rfl)⟩) ?_
            simp only [List.set_cons_zero, List.set_cons_succ]
            refine heldTake 5 54 rfl rfl (by kernel_rfl) (by kernel_rfl) (by kernel_rfl) (fun _ _ _ h => h) hS0 (.inl ⟨by rfl, by intro w' hS; (try dsimp only at hS); go_simp; (try rfl)⟩) ?_
            simp only [List.set_cons_zero, List.set_cons_succ]
            refine heldTake 6 55 rfl rfl (by kernel_rfl) (by kernel_rfl) (by kernel_rfl) (fun _ _ _ h => h) hS0 (.inl ⟨by rfl, by intro w' hS; (try dsimp only at hS); go_simp; (try rfl)⟩) ?_
            simp only [List.set_cons_zero, List.set_cons_succ]
            refine heldTake 7 56 rfl rfl (by kernel_rfl) (by kernel_rfl) (by kernel_rfl) (fun _ _ _ h => h) hS0 (.inr ⟨by rfl, rfl⟩) ?_
            simp only [List.set_cons_zero, List.set_cons_succ]
            refine heldTake 8 57 rfl rfl (by kernel_rfl) (by kernel_rfl) (by kernel_rfl) (fun _ _ _ h => h) hS0 (.inr ⟨by rfl, rfl⟩) ?_
            simp only [List.set_cons_zero, List.set_cons_succ]
            refine heldTake 9 58 rfl rfl (by kernel_rfl) (by kernel_rfl) (by kernel_rfl) (fun _ _ _ h => h) hS0 (.inr ⟨by rfl, rfl⟩) ?_
            simp only [List.set_cons_zero, List.set_cons_succ]
            refine heldTake 10 59 rfl rfl (by kernel_rfl) (by kernel_rfl) (by kernel_rfl) (fun _ _ _ h => h) hS0 (.inr ⟨by rfl, rfl⟩) ?_
            simp only [List.set_cons_zero, List.set_cons_succ]
            refine heldTake 11 60 rfl rfl (by kernel_rfl) (by kernel_rfl) (by kernel_rfl) (fun _ _ _ h => h) hS0 (.inr ⟨by rfl, rfl⟩) ?_
            simp only [List.set_cons_zero, List.set_cons_succ]
            refine heldTake 12 61 rfl rfl (by kernel_rfl) (by kernel_rfl) (by kernel_rfl) (fun _ _ _ h => h) hS0 (.inr ⟨by rfl, rfl⟩) ?_
            simp only [List.set_cons_zero, List.set_cons_succ]
            refine heldTake 13 62 rfl rfl (by kernel_rfl) (by kernel_rfl) (by kernel_rfl) (fun _ _ _ h => h) hS0 (.inr ⟨by rfl, rfl⟩) ?_
            simp only [List.set_cons_zero, List.set_cons_succ]
            refine heldTake 14 63 rfl rfl (by kernel_rfl) (by kernel_rfl) (by kernel_rfl) (fun _ _ _ h => h) hS0 (.inl ⟨by rfl, by intro w' hS; (try dsimp only at hS); go_simp; (try rfl)⟩) ?_
            simp only [List.set_cons_zero, List.set_cons_succ]
            refine heldTake 15 64 rfl rfl (by kernel_rfl) (by kernel_rfl) (by kernel_rfl) (fun _ _ _ h => h) hS0 (.inl ⟨by rfl, by intro w' hS; (try dsimp only at hS); go_simp; (try rfl)⟩) ?_
            simp only [List.set_cons_zero, List.set_cons_succ]
            refine heldOne 16 (by kernel_rfl) rfl (by rfl) ?_
            go_simp
            refine (l9awake _).mono ?_
            rintro e w9 ⟨rfl, hb9⟩
            have hS9 : w9.heap[w.heap.size]? = some (.cells (eagg x) 68 (0, 0)) ∧ w9.heap[w.heap.size + 1]? = some (.cells (eagg y) 68 (0, 0)) := ⟨(hb9.block _ (by show _ < wB.heap.size; omega)).trans hS0.1, (hb9.block _ (by show _ < wB.heap.size; omega)).trans hS0.2⟩
            refine ⟨hS9, ?_⟩
            refine heldTake 17 66 rfl rfl (by kernel_rfl) (by kernel_rfl) (by kernel_rfl) (fun _ _ _ h => h) hS9 (.inl ⟨by rfl, by intro w' hS; (try dsimp only at hS); go_simp; (try rfl)⟩) ?_
            simp only [List.set_cons_zero, List.set_cons_succ]
            refine heldTake 18 6 rfl rfl (by kernel_rfl) (by kernel_rfl) (by kernel_rfl) (fun _ _ _ h => h) hS9 (.inl ⟨by rfl, by intro w' hS; (try dsimp only at hS); go_simp; (try rfl)⟩) ?_
            simp only [List.set_cons_zero, List.set_cons_succ]
            refine wpAnyH_done (by kernel_rfl) ?_ _
            have HB9 := Lib.hid (HBWB.out.trans ((Below.refl _ wB).drew.trans (hb9.mono (by show w.heap.size ≤ wB.heap.size; omega))))
            clear hb9 hS0 hS9
            go_wp2
            go_ret
            exact ⟨rfl, HB9.out⟩
          | true =>
            have hinj := formE_inj HX.out HY.out hu hv
            have heq : ∀ W : World, (binOp .eql 68 (.agg (eagg x)) (.agg (eagg y))).run Try.prog W = .ok (.bool (eqE x y)) W := run_eql_entry x y HX.out HY.out
            obtain ⟨d1, hd1⟩ : ∃ d1, decide (formE x = formE y) = d1 := ⟨_, rfl⟩
            obtain ⟨d2, hd2⟩ : ∃ d2, eqE x y = d2 := ⟨_, rfl⟩
            rw [hd1, hd2] at hinj
            rw [hd2] at heq
            have HD1 := Lib.hid hd1
            have HINJ := Lib.hid hinj
            clear hu hv hinj hd1 hd2
            go_wp2
            refine wp_region_any (by kernel_rfl) ?_
            refine wpAny_of_held (S := fun w' => w'.heap[w.heap.size]? = some (.cells (eagg x) 68 (0, 0)) ∧ w'.heap[w.heap.size + 1]? = some (.cells (eagg y) 68 (0, 0))) _ _ _ _ ?_
            have hS0 : wB.drew.heap[w.heap.size]? = some (.cells (eagg x) 68 (0, 0)) ∧ wB.drew.heap[w.heap.size + 1]? = some (.cells (eagg y) 68 (0, 0)) := ⟨HRXB.out, HRYB.out⟩
            refine heldTake 0 49 rfl rfl (by kernel_rfl) (by kernel_rfl) (by kernel_rfl) (fun _ _ _ h => h) hS0 (.inl ⟨by rfl, by intro w' hS; (try dsimp only at hS); go_simp; (try rfl)⟩) ?_
            simp only [List.set_cons_zero, List.set_cons_succ]
            refine heldTake 1 50 rfl rfl (by kernel_rfl) (by kernel_rfl) (by kernel_rfl) (fun _ _ _ h => h) hS0 (.inl ⟨by rfl, by intro w' hS; (try dsimp only at hS); go_simp; (try rfl)⟩) ?_
            simp only [List.set_cons_zero, List.set_cons_succ]
            refine heldTake 2 51 rfl rfl (by kernel_rfl) (by kernel_rfl) (by kernel_rfl) (fun _ _ _ h => h) hS0 (.inl ⟨by rfl, by intro w' hS; (try dsimp only at hS); go_simp; (try rfl)⟩) ?_
            simp only [List.set_cons_zero, List.set_cons_succ]
            refine heldTake 3 52 rfl rfl (by kernel_rfl) (by kernel_rfl) (by kernel_rfl) (fun _ _ _ h => h) hS0 (.inl ⟨by rfl, by intro w' hS; (try dsimp only at hS); go_simp; (try rfl)⟩) ?_
            simp only [List.set_cons_zero, List.set_cons_succ]
            refine heldTake 4 53 rfl rfl (by kernel_rfl) (by kernel_rfl) (by kernel_rfl) (fun _ _ _ h => h) hS0 (.inl ⟨by rfl, by intro w' hS; (try dsimp only at hS); go_simp; (try rfl)⟩) ?_
            simp only [List.set_cons_zero, List.set_cons_succ]
            refine heldTake 5 54 rfl rfl (by kernel_rfl) (by kernel_rfl) (by kernel_rfl) (fun _ _ _ h => h) hS0 (.inl ⟨by rfl, by intro w' hS; (try dsimp only at hS); go_simp; (try rfl)⟩) ?_
            simp only [List.set_cons_zero, List.set_cons_succ]
            refine heldTake 6 55 rfl rfl (by kernel_rfl) (by kernel_rfl) (by kernel_rfl) (fun _ _ _ h => h) hS0 (.inl ⟨by rfl, by intro w' hS; (try dsimp only at hS); go_simp; (try rfl)⟩) ?_
            simp only [List.set_cons_zero, List.set_cons_succ]
            refine heldTake 7 56 rfl rfl (by kernel_rfl) (by kernel_rfl) (by kernel_rfl) (fun _ _ _ h => h) hS0 (.inl ⟨by rfl, by intro w' hS; (try dsimp only at hS); go_simp; (try rfl)⟩) ?_
            simp only [List.set_cons_zero, List.set_cons_succ]
            refine heldTake 8 57 rfl rfl (by kernel_rfl) (by kernel_rfl) (by kernel_rfl) (fun _ _ _ h => h) hS0 (.inl ⟨by rfl, by intro w' hS; (try dsimp only at hS); go_simp; (try rfl)⟩) ?_
            simp only [List.set_cons_zero, List.set_cons_succ]
            refine heldTake 10 59 rfl rfl (by kernel_rfl) (by kernel_rfl) (by kernel_rfl) (fun _ _ _ h => h) hS0 (yieldsIf_load_is (by rfl) 68 (.tmp 4) rfl w.heap.size rfl 68 (eagg x) _ (fun _ h => h.1) Try.underlying68 rfl (by rw [HXS.out]; exact infoEntry)) ?_
            simp only [List.set_cons_zero, List.set_cons_succ]
            refine heldTake 11 60 rfl rfl (by kernel_rfl) (by kernel_rfl) (by kernel_rfl) (fun _ _ _ h => h) hS0 (yieldsIf_load_is (by rfl) 68 (.tmp 5) rfl (w.heap.size + 1) rfl 68 (eagg y) _ (fun _ h => h.2) Try.underlying68 rfl (by rw [HYS.out]; exact infoEntry)) ?_
            simp only [List.set_cons_zero, List.set_cons_succ]
            refine heldTake 12 61 rfl rfl (by kernel_rfl) (by kernel_rfl) (by kernel_rfl) (fun _ _ _ h => h) hS0 (.inl ⟨by rfl, by intro w' hS; (try dsimp only at hS); go_simp; (try rfl)⟩) ?_
            simp only [List.set_cons_zero, List.set_cons_succ]
            refine heldOne 9 (by kernel_rfl) rfl (by rfl) ?_
            go_simp
            refine (r1Bytes (formE x) (formE y) _ _ _ _ _ _ wB.drew (HBSXB.out.below (w' := wB.drew) (Below.refl _ _).drew (Nat.le_refl _)) (HBSY.out.below (w' := wB.drew) (Below.refl _ _).drew (Nat.le_refl _))).mono ?_
            rintro e w8 ⟨rfl, hb8⟩
            rw [HD1.out]
            have hs8 : wB.heap.size ≤ w8.heap.size := hb8.size
            have hS8 : w8.heap[w.heap.size]? = some (.cells (eagg x) 68 (0, 0)) ∧ w8.heap[w.heap.size + 1]? = some (.cells (eagg y) 68 (0, 0)) := ⟨(hb8.block _ (by show _ < wB.heap.size; omega)).trans hS0.1, (hb8.block _ (by show _ < wB.heap.size; omega)).trans hS0.2⟩
            refine ⟨hS8, ?_⟩
            refine heldTake 13 62 (v := .bool true) rfl rfl (by kernel_rfl) (by kernel_rfl) (by kernel_rfl) (fun _ _ _ h => h) hS8 (.inl ⟨by rfl, by intro w' hS; clear hS heq; go_simp; exact beq_iff_eq.1 HINJ.out⟩) ?_
            simp only [List.set_cons_zero, List.set_cons_succ]
            refine heldTake 14 63 rfl rfl (by kernel_rfl) (by kernel_rfl) (by kernel_rfl) (fun _ _ _ h => h) hS8 (.inl ⟨by rfl, by intro w' hS; (try dsimp only at hS); go_simp; (try rfl)⟩) ?_
            simp only [List.set_cons_zero, List.set_cons_succ]
            refine heldTake 15 64 rfl rfl (by kernel_rfl) (by kernel_rfl) (by kernel_rfl) (fun _ _ _ h => h) hS8 (.inl ⟨by rfl, by intro w' hS; (try dsimp only at hS); go_simp; (try rfl)⟩) ?_
            simp only [List.set_cons_zero, List.set_cons_succ]
            refine heldOne 16 (by kernel_rfl) rfl (by rfl) ?_
            go_simp
            refine (l9awake _).mono ?_
            rintro e w9 ⟨rfl, hb9⟩
            have HB9 := Lib.hid (HBWB.out.trans ((Below.refl _ wB).drew.trans ((hb8.mono (by show w.heap.size ≤ wB.heap.size; omega)).trans (hb9.mono (by omega)))))
            refine ⟨⟨(hb9.block _ (by omega)).trans hS8.1, (hb9.block _ (by omega)).trans hS8.2⟩, ?_⟩
            have hS9 : w9.heap[w.heap.size]? = some (.cells (eagg x) 68 (0, 0)) ∧ w9.heap[w.heap.size + 1]? = some (.cells (eagg y) 68 (0, 0)) := ⟨(hb9.block _ (by omega)).trans hS8.1, (hb9.block _ (by omega)).trans hS8.2⟩
            refine heldTake 17 66 rfl rfl (by kernel_rfl) (by kernel_rfl) (by kernel_rfl) (fun _ _ _ h => h) hS9 (.inl ⟨by rfl, by intro w' hS; (try dsimp only at hS); go_simp; (try rfl)⟩) ?_
            simp only [List.set_cons_zero, List.set_cons_succ]
            refine heldTake 18 6 rfl rfl (by kernel_rfl) (by kernel_rfl) (by kernel_rfl) (fun _ _ _ h => h) hS9 (.inl ⟨by rfl, by intro w' hS; (try dsimp only at hS); go_simp; (try rfl)⟩) ?_
            simp only [List.set_cons_zero, List.set_cons_succ]
            refine wpAnyH_done (by kernel_rfl) ?_ _
            clear hb8 hb9 hS0 hS8 hS9 heq
            go_wp2
            go_ret
            exact ⟨rfl, HB9.out⟩
  · have t1 : decide ((100 : Int) < n) = true := by simp; omega
    clear h hx hy
    go_enter Try.func12, Try.ntmps12
    go_wp2_with (first
      | (refine wpList_box_abs rfl 68 (.tmp 1) rfl (eagg x) rfl ?_; intro W0 hrow0 hb0 hs0; have HB0 := Lib.hid hb0; clear hrow0 hb0)
      | (refine wpList_box_abs rfl 68 (.tmp 2) rfl (eagg y) rfl ?_; intro W1 hrow1 hb1 hs1; have HB1 := Lib.hid hb1; clear hrow1 hb1))
    refine (l9awake _).mono ?_
    rintro e w5 ⟨rfl, hb5⟩
    have HB5 := Lib.hid ((HB0.out.trans (HB1.out.mono (by omega))).trans (hb5.mono (by omega)))
    clear hb5
    go_wp2
    go_ret
    exact ⟨rfl, HB5.out⟩
end Go.Proofs.Ytogcnfhmcpkdcaa
