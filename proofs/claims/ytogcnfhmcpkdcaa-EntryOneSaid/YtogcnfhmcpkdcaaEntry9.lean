/-
  An entry that came in, opened; the statement EntryForms, its walk.
-/
import Derived.Test.YtogcnfhmcpkdcaaEntry6
import Derived.Test.YtogcnfhmcpkdcaaEntry8
import Derived.Test.YtogcnfhmcpkdcaaField4
import Derived.Test.YtogcnfhmcpkdcaaOpen
import Derived.Test.YtogcnfhmcpkdcaaWideOps3
namespace Go.Proofs.Ytogcnfhmcpkdcaa
open Go.RowKit
set_option linter.unusedVariables false
set_option linter.unusedSimpArgs false

theorem right_natE {x : PEntry} (h : rightE x = true) : ∃ K S Y P : Nat, x = mkE K S x.tx x.a Y P ∧ 1 ≤ K ∧ K ≤ 3 ∧ S ≤ 63 ∧ x.a ≤ 4611686018427387904 ∧ Y ≤ 63 ∧ P ≤ 1099511627776 := by
  obtain ⟨k, s, t, a, y, p⟩ := x
  simp [rightE, inRow] at h
  refine ⟨k.toNat, s.toNat, y.toNat, p.toNat, ?_, by omega, by omega, by omega, by simpa using h.2.2.1, by omega, by omega⟩
  simp only [mkE]
  congr 1 <;> omega

theorem read_put {K S : Nat} {tx : List UInt8} {A Y P : Nat} (h1 : 1 ≤ K) (hK : K ≤ 3) (hS : S ≤ 63) (ht : tx.length = 32) (hA : A ≤ 4611686018427387904) (hY : Y ≤ 63) (hP : P ≤ 1099511627776) :
    outE (getE (putE K S tx A Y P)) = (mkE K S tx A Y P, 0) := by
  have h := getE_put hK hS ht hA hY hP []
  rw [List.append_nil] at h
  rw [h]
  simp only [outE, mkE]
  rw [if_pos ⟨trivial, by omega⟩]

set_option maxRecDepth 100000 in
set_option maxHeartbeats 8000000 in
theorem entryForms_calls (x : PEntry) (hx : x.tx.length = 32) (w : World) :
    Calls Try.prog 11 #[.agg (eagg x)] w fun e w' => e = .returned (.bool true) ∧ Below w.heap.size w w' := by
  have HSZ := Lib.hid (eagg_size x hx)
  have HZS := Lib.hid (eagg_size zeroE rfl)
  cases hr : rightE x with
  | false =>
    have HR := Lib.hid hr
    obtain ⟨z, hz⟩ : ∃ z, decide (x.k < 3) = z := ⟨_, rfl⟩
    have HZ := Lib.hid hz
    clear hr
    go_enter Try.func11, Try.ntmps11
    go_wp2_with (first
      | (refine wpList_box_abs rfl 68 _ rfl (eagg x) rfl ?_; intro W0 hrow0 hb0 hs0; have HROW := Lib.hid hrow0; have HB0 := Lib.hid hb0; clear hrow0 hb0)
      | (refine wpList_load_is rfl 68 _ rfl w.heap.size rfl 68 (eagg x) _ HROW.out Try.underlying68 rfl (by rw [HSZ.out]; exact infoEntry) ?_))
    refine (entryPut_no x hx HR.out _).mono ?_
    rintro e w1 ⟨rfl, hb1⟩
    have hs1 := hb1.size
    have HR1 := Lib.hid ((hb1.block w.heap.size (by omega)).trans HROW.out)
    have HB1 := Lib.hid (HB0.out.trans (hb1.mono (by omega)))
    clear hb1
    go_wp2_with (refine wpList_load_is rfl 68 (.tmp 1) rfl w.heap.size rfl 68 (eagg x) _ HR1.out Try.underlying68 rfl (by rw [HSZ.out]; exact infoEntry) ?_)
    refine (refEntryRight x hx _).mono ?_
    rintro e w2 ⟨rfl, hb2⟩
    have hs2 := hb2.size
    have HR2 := Lib.hid ((hb2.block w.heap.size (by omega)).trans HR1.out)
    have HB2 := Lib.hid (HB1.out.trans (hb2.mono (by omega)))
    clear hb2
    rw [HR.out]
    go_wp2_with (refine wpList_load_isw (by rfl) 68 (.tmp 1) rfl w.heap.size rfl 68 (eagg x) _ HR2.out Try.underlying68 rfl (by rw [HSZ.out]; exact infoEntry) ?_)
    refine (entryRight x hx _).mono ?_
    rintro e w3 ⟨rfl, hb3⟩
    have hs3 := hb3.size
    have HR3 := Lib.hid ((hb3.block w.heap.size (by omega)).trans HR2.out)
    have HB3 := Lib.hid (HB2.out.trans (hb3.mono (by omega)))
    clear hb3
    rw [HR.out]
    go_wp2_with (refine wpList_load_isw (by rfl) 68 (.tmp 1) rfl w.heap.size rfl 68 (eagg x) _ HR3.out Try.underlying68 rfl (by rw [HSZ.out]; exact infoEntry) ?_)
    refine (entryDecides x hx _).mono ?_
    rintro e w4 ⟨rfl, hb4⟩
    have hs4 := hb4.size
    have HB4 := Lib.hid (HB3.out.trans (hb4.mono (by omega)))
    clear hb4
    rw [HR.out, Bool.false_and]
    go_wp2_with fail
    refine (l9awake _).mono ?_
    rintro e w5 ⟨rfl, hb5⟩
    have HB5 := Lib.hid (HB4.out.trans (hb5.mono (by omega)))
    clear hb5
    go_wp2
    go_ret
    exact ⟨rfl, HB5.out⟩
  | true =>
    obtain ⟨K, S, Y, P, hxe, hK1, hK, hS, hA, hY, hP⟩ := right_natE hr
    obtain ⟨A, hAe⟩ : ∃ A, A = x.a := ⟨_, rfl⟩
    obtain ⟨tx, htx⟩ : ∃ tx, tx = x.tx := ⟨_, rfl⟩
    rw [← hAe, ← htx] at hxe
    rw [← hAe] at hA
    have hk3 : (x.k != 3) = decide (x.k < 3) := by
      have : x.k = K := by rw [hxe]; rfl
      rw [Bool.eq_iff_iff]; simp; omega
    have hk : x.k = (K : Int) := by rw [hxe]; rfl
    have htl : tx.length = 32 := by rw [htx]; exact hx
    have hxx : ∀ W : World, (binOp .eql 68 (.agg (eagg x)) (.agg (eagg x))).run Try.prog W = .ok (.bool true) W := fun W => by
      have := run_eql_entry x x hx hx W
      rwa [eqE_refl] at this
    obtain ⟨z, hz⟩ : ∃ z, decide ((K : Int) < 3) = z := ⟨_, rfl⟩
    rw [hk, hz] at hk3
    have HXE := Lib.hid hxe
    have HR := Lib.hid hr
    have HK := Lib.hid hk
    have HK3 := Lib.hid hk3
    have HTL := Lib.hid htl
    clear hr hxe hAe htx hk3 hk htl
    go_enter Try.func11, Try.ntmps11
    go_wp2_with (first
      | (refine wpList_box_abs rfl 68 _ rfl (eagg x) rfl ?_; intro W0 hrow0 hb0 hs0; have HROW := Lib.hid hrow0; have HB0 := Lib.hid hb0; clear hrow0 hb0)
      | (refine wpList_load_is rfl 68 _ rfl w.heap.size rfl 68 (eagg x) _ HROW.out Try.underlying68 rfl (by rw [HSZ.out]; exact infoEntry) ?_))
    have hput := entryPut_yes K S tx A Y P (by rw [← HXE.out]; exact HR.out) hK hS HTL.out hA hY hP W0
    rw [← HXE.out] at hput
    refine hput.mono ?_
    rintro e w1 ⟨ba, bc, rfl, hbs1, hb1⟩
    clear hput
    have hs1 := hb1.size
    have HR1 := Lib.hid ((hb1.block w.heap.size (by omega)).trans HROW.out)
    have HB1 := Lib.hid (HB0.out.trans (hb1.mono (by omega)))
    obtain ⟨L, hL⟩ : ∃ L, L = putE K S tx A Y P := ⟨_, rfl⟩
    rw [← hL] at hbs1
    rw [← hL]
    have HL := Lib.hid hL
    have HBS1 := Lib.hid hbs1
    clear hb1 hL hbs1
    go_wp2_with (refine wpList_load_is rfl 68 (.tmp 1) rfl w.heap.size rfl 68 (eagg x) _ HR1.out Try.underlying68 rfl (by rw [HSZ.out]; exact infoEntry) ?_)
    refine (refEntryRight x hx _).mono ?_
    rintro e w2 ⟨rfl, hb2⟩
    have hs2 := hb2.size
    have HR2 := Lib.hid ((hb2.block w.heap.size (by omega)).trans HR1.out)
    have HB2 := Lib.hid (HB1.out.trans (hb2.mono (by omega)))
    have HBS2 := Lib.hid ((HBS1.out.below hb2 (Nat.le_refl _)).mono hs2)
    clear hb2
    rw [HR.out]
    go_wp2_with (refine wpList_load_isw (by rfl) 68 (.tmp 1) rfl w.heap.size rfl 68 (eagg x) _ HR2.out Try.underlying68 rfl (by rw [HSZ.out]; exact infoEntry) ?_)
    refine (entryRight x hx _).mono ?_
    rintro e w3 ⟨rfl, hb3⟩
    have hs3 := hb3.size
    have HR3 := Lib.hid ((hb3.block w.heap.size (by omega)).trans HR2.out)
    have HB3 := Lib.hid (HB2.out.trans (hb3.mono (by omega)))
    have HBS3 := Lib.hid ((HBS2.out.below hb3 (Nat.le_refl _)).mono hs3)
    clear hb3
    rw [HR.out]
    go_wp2_with (refine wpList_load_isw (by rfl) 68 (.tmp 1) rfl w.heap.size rfl 68 (eagg x) _ HR3.out Try.underlying68 rfl (by rw [HSZ.out]; exact infoEntry) ?_)
    refine (entryDecides x hx _).mono ?_
    rintro e w4 ⟨rfl, hb4⟩
    have hs4 := hb4.size
    have HR4 := Lib.hid ((hb4.block w.heap.size (by omega)).trans HR3.out)
    have HB4 := Lib.hid (HB3.out.trans (hb4.mono (by omega)))
    have HBS4 := Lib.hid ((HBS3.out.below hb4 (Nat.le_refl _)).mono hs4)
    obtain ⟨c0, -, -, -, -⟩ := erow_cells hx HR4.out
    rw [HK.out] at c0
    clear hb4
    rw [HR.out, Bool.true_and, HK.out, HK3.out]
    cases z
    all_goals
      go_wp2_with fail
      refine (entryRead L _ _ _ _ HBS4.out).mono ?_
      rintro e w5 ⟨rfl, hb5⟩
      have hs5 := hb5.size
      have HR5 := Lib.hid ((hb5.block w.heap.size (by omega)).trans HR4.out)
      have HB5 := Lib.hid (HB4.out.trans (hb5.mono (by omega)))
      have HBS5 := Lib.hid ((HBS4.out.below hb5 (Nat.le_refl _)).mono hs5)
      have ho : outE (getE L) = (x, 0) := by rw [HL.out, read_put hK1 hK hS HTL.out hA hY hP, ← HXE.out]
      rw [ho]
      simp only
      clear hb5 ho c0
      go_wp2_with (first
        | (refine wpList_alloc_abs rfl 68 rfl (eagg zeroE) zero_entry ?_; intro W6 hrow6 hb6 hs6; have HRW6 := Lib.hid hrow6; have HB6 := Lib.hid hb6; clear hrow6 hb6)
        | (refine wpList_store_abs rfl 68 (.tmp 5) _ rfl w5.heap.size (eagg x) rfl rfl 68 _ HRW6.out (by rw [HSZ.out]; exact infoEntry) (by rw [HSZ.out, HZS.out]) (eagg_one _) ?_; intro W7 hrow7 hoth7 hb7 hs7; have HRW7 := Lib.hid hrow7; have HB7 := Lib.hid (HB6.out.trans hb7); have HR7 := Lib.hid (((HB6.out.trans hb7).block w.heap.size (by omega)).trans HR5.out); clear hrow7 hoth7 hb7)
        | (refine wpList_load_is rfl 68 (.tmp 1) rfl w.heap.size rfl 68 (eagg x) _ HR7.out Try.underlying68 rfl (by rw [HSZ.out]; exact infoEntry) ?_))
      have hput := refEntryPut K S tx A Y P hK hS HTL.out hA hY hP W7
      rw [← HXE.out, ← HL.out] at hput
      refine hput.mono ?_
      rintro e w8 ⟨ra, rc, rfl, hbs8, hb8⟩
      clear hput
      have hs8 := hb8.size
      have hb58 : Below w5.heap.size w5 w8 := HB7.out.trans (hb8.mono (by omega))
      have HR8 := Lib.hid ((hb58.block w.heap.size (by omega)).trans HR5.out)
      have HRW8 := Lib.hid ((hb8.block w5.heap.size (by omega)).trans HRW7.out)
      have HB8 := Lib.hid (HB5.out.trans (hb58.mono (by omega)))
      have HBS8 := Lib.hid ((HBS5.out.below hb58 (Nat.le_refl _)).mono hb58.size)
      have HRB8 := Lib.hid hbs8
      clear hb8 hb58 hbs8
      go_wp2_with fail
      refine (r1Bytes L L _ _ _ _ _ _ _ HBS8.out HRB8.out).mono ?_
      rintro e w9 ⟨rfl, hb9⟩
      have hs9 := hb9.size
      have HR9 := Lib.hid ((hb9.block w.heap.size (by omega)).trans HR8.out)
      have HRW9 := Lib.hid ((hb9.block w5.heap.size (by omega)).trans HRW8.out)
      have HB9 := Lib.hid (HB8.out.trans (hb9.mono (by omega)))
      clear hb9
      simp only [decide_true]
      go_wp2_with (first
        | (refine wpList_load_isw (by rfl) 68 (.tmp 1) rfl w.heap.size rfl 68 (eagg x) _ HR9.out Try.underlying68 rfl (by rw [HSZ.out]; exact infoEntry) ?_)
        | (refine wpList_load_isw (by rfl) 68 (.tmp 5) rfl w5.heap.size rfl 68 (eagg x) _ HRW9.out Try.underlying68 rfl (by rw [HSZ.out]; exact infoEntry) ?_))
      refine (l9awake _).mono ?_
      rintro e w10 ⟨rfl, hb10⟩
      have HB10 := Lib.hid (HB9.out.trans (hb10.mono (by omega)))
      clear hb10
      go_wp2
      go_ret
      exact ⟨rfl, HB10.out⟩
end Go.Proofs.Ytogcnfhmcpkdcaa
