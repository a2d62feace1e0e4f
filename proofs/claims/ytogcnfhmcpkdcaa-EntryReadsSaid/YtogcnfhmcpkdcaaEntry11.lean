/-
  The statement EntryReads, its walk.
-/
import Derived.Test.YtogcnfhmcpkdcaaEntry7
import Derived.Test.YtogcnfhmcpkdcaaEntry8
import Derived.Test.YtogcnfhmcpkdcaaWideOps3
namespace Go.Proofs.Ytogcnfhmcpkdcaa
open Go.RowKit
set_option linter.unusedVariables false
set_option linter.unusedSimpArgs false

set_option maxRecDepth 100000 in
set_option maxHeartbeats 8000000 in
theorem entryReads_calls (l : List UInt8) (a : Option Addr) (n c : Nat) (w : World) (hn : n = l.length) (h : n ≤ 100 → BsAt w w.heap.size a n c l) :
    Calls Try.prog 7 #[.slice a n c] w fun e w' => e = .returned (.bool true) ∧ Below w.heap.size w w' := by
  have HZS := Lib.hid (eagg_size zeroE rfl)
  by_cases h100 : n ≤ 100
  · have H := Lib.hid (h h100)
    have t1 : decide ((100 : Int) < n) = false := by simp; omega
    subst hn
    obtain ⟨O, hO⟩ : ∃ O, O = outE (getE l) := ⟨_, rfl⟩
    have HO := Lib.hid hO
    have HOL := Lib.hid (show O.1.tx.length = 32 by rw [hO]; exact outE_len l)
    have HOS := Lib.hid (eagg_size O.1 HOL.out)
    have heq := run_eql_entry O.1 O.1 HOL.out HOL.out
    rw [eqE_refl] at heq
    clear hO h
    go_enter Try.func7, Try.ntmps7
    go_wp2_with fail
    refine (entryRead l a l.length c _ H.out).mono ?_
    rintro e w1 ⟨rfl, hb1⟩
    rw [← HO.out]
    have hs1 := hb1.size
    have HB1 := Lib.hid hb1
    clear hb1
    go_wp2_with (first
      | (refine wpList_alloc_abs rfl 68 rfl (eagg zeroE) zero_entry ?_; intro W2 hrow2 hb2 hs2; have HRW2 := Lib.hid hrow2; have HB2 := Lib.hid hb2; clear hrow2 hb2)
      | (refine wpList_store_abs rfl 68 (.tmp 3) _ rfl w1.heap.size (eagg O.1) rfl rfl 68 _ HRW2.out (by rw [HOS.out]; exact infoEntry) (by rw [HOS.out, HZS.out]) (eagg_one _) ?_; intro W3 hrow3 hoth3 hb3 hs3; have HRW3 := Lib.hid hrow3; have HB3 := Lib.hid (HB2.out.trans hb3); clear hrow3 hoth3 hb3))
    have HB13 := Lib.hid (HB1.out.trans (HB3.out.mono (by omega)))
    refine (refEntryRead l a l.length c _ ((H.out.below HB13.out (Nat.le_refl _)).mono (by omega))).mono ?_
    rintro e w4 ⟨rfl, hb4⟩
    rw [← HO.out]
    have hs4 := hb4.size
    have HRW4 := Lib.hid ((hb4.block w1.heap.size (by omega)).trans HRW3.out)
    have HB4 := Lib.hid (HB13.out.trans (hb4.mono (by omega)))
    clear hb4
    go_wp2_with (first
      | (refine wpList_alloc_abs rfl 68 rfl (eagg zeroE) zero_entry ?_; intro W5 hrow5 hb5 hs5; have HRW5 := Lib.hid hrow5; have HB5 := Lib.hid hb5; clear hrow5 hb5)
      | (refine wpList_store_abs rfl 68 (.tmp 5) _ rfl w4.heap.size (eagg O.1) rfl rfl 68 _ HRW5.out (by rw [HOS.out]; exact infoEntry) (by rw [HOS.out, HZS.out]) (eagg_one _) ?_; intro W6 hrow6 hoth6 hb6 hs6; have HRW6 := Lib.hid hrow6; have HRA6 := Lib.hid ((hoth6 w1.heap.size (by omega)).trans ((HB5.out.block w1.heap.size (by omega)).trans HRW4.out)); have HB6 := Lib.hid (HB5.out.trans hb6); clear hrow6 hoth6 hb6)
      | (refine wpList_load_is rfl 68 (.tmp 3) rfl w1.heap.size rfl 68 (eagg O.1) _ HRA6.out Try.underlying68 rfl (by rw [HOS.out]; exact infoEntry) ?_)
      | (refine wpList_load_is rfl 68 (.tmp 5) rfl w4.heap.size rfl 68 (eagg O.1) _ HRW6.out Try.underlying68 rfl (by rw [HOS.out]; exact infoEntry) ?_))
    refine (l9awake _).mono ?_
    rintro e w7 ⟨rfl, hb7⟩
    have HB7 := Lib.hid (HB4.out.trans ((HB6.out.mono (by omega)).trans (hb7.mono (by omega))))
    clear hb7
    go_wp2
    go_ret
    exact ⟨rfl, HB7.out⟩
  · have t1 : decide ((100 : Int) < n) = true := by simp; omega
    clear h
    go_enter Try.func7, Try.ntmps7
    go_wp2_with fail
    refine (l9awake _).mono ?_
    rintro e w5 ⟨rfl, hb5⟩
    go_wp2
    go_ret
    exact ⟨rfl, hb5⟩
end Go.Proofs.Ytogcnfhmcpkdcaa
