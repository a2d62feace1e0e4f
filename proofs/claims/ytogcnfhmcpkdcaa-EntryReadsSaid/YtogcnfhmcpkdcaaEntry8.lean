/-
  The document's example of layer 9 (awake) answers true.
-/
import Derived.Test.YtogcnfhmcpkdcaaEntry4
import Derived.Test.YtogcnfhmcpkdcaaAppendZ
namespace Go.Proofs.Ytogcnfhmcpkdcaa
open Go.RowKit
set_option linter.unusedVariables false
set_option linter.unusedSimpArgs false

def kindE (k : Int) : PEntry := ⟨k, 0, zeroTx, 0, 0, 0⟩
theorem built_kind2 : Try.prog.built 68 [(0, .int .i64 2)] = some (eagg (kindE 2)) := by kernel_rfl
theorem built_kind3 : Try.prog.built 68 [(0, .int .i64 3)] = some (eagg (kindE 3)) := by kernel_rfl
theorem awake_bytes : outE (getE (List.replicate 37 0)) = (zeroE, 3) := by rfl

set_option maxRecDepth 100000 in
set_option maxHeartbeats 4000000 in
theorem l9awake (w : World) : Calls Try.prog 41 #[] w fun e w' => e = .returned (.bool true) ∧ Below w.heap.size w w' := by
  obtain ⟨i0, hi, hz0, hz1, hz2⟩ := info_parts infoU8
  have HZS := Lib.hid (eagg_size zeroE rfl)
  go_enter Try.func41, Try.ntmps41
  go_wp2_with (at_builtin; refine wpList_append_zeros _ rfl _ _ 22 3 rfl w.heap.size 5 .i64 i0 (.int .u8 0) 1 Try.underlying22 Try.underlying3 hi hz0 hz1 hz2 rfl w.heap.size 2 2 [.int .u8 0, .int .u8 0] rfl ⟨rfl, .inr ⟨w.heap.size, 2, #[.int .u8 0, .int .u8 0], rfl, Nat.le_refl _, heap_alloc_new w _, by omega, by unfold maxLen; omega, rfl, rfl⟩⟩ 35 rfl (by omega) (by omega) (by unfold maxLen; omega) (by omega) (by simp) ?_; intro c1 w1 hown1 hb1 hs1)
  have hb01 : Below w.heap.size w w1 := ((Below.refl _ w).alloc (Nat.le_refl _) _).trans (hb1.mono (by simp))
  have hown2 : w1.ownsRow w.heap.size 5 1 (.slice (some ⟨w.heap.size + 1, 0, none⟩) 37 c1) 37 ((List.replicate 37 (0 : UInt8)).map bv) := by
    simp only [World.size_alloc] at hown1
    exact hown1
  obtain ⟨a2, c2, e2, hbs⟩ := bsAt_of_owns hown2 (by omega)
  injection e2 with e3 e4 e5
  subst e3; subst e5
  have HB1 := Lib.hid hb01
  clear hown1 hown2 hb1 hb01 e4
  refine (entryRead (List.replicate 37 0) _ _ _ _ hbs).mono ?_
  rintro e w2 ⟨rfl, hb2⟩
  rw [awake_bytes]
  have HB2 := Lib.hid (HB1.out.trans (hb2.mono HB1.out.size))
  clear hb2 hbs
  go_wp2_with (first
    | (refine wpList_alloc_abs rfl 68 rfl (eagg zeroE) zero_entry ?_; intro W0 hrow0 hb0 hs0; have HRW0 := Lib.hid hrow0; have HB0 := Lib.hid hb0; clear hrow0 hb0)
    | (refine wpList_store_abs rfl 68 (.tmp 1) _ rfl w2.heap.size (eagg zeroE) rfl rfl 68 _ HRW0.out (by rw [HZS.out]; exact infoEntry) rfl (eagg_one _) ?_; intro W5 hrow5 hoth5 hb5 hs5; have HB5 := Lib.hid hb5; clear hrow5 hoth5 hb5)
    | (refine wpList_build_l rfl 68 [(0, .const (.int .i64 2))] rfl [(0, .int .i64 2)] rfl (eagg (kindE 2)) built_kind2 ?_)
    | (refine wpList_build_l rfl 68 [(0, .const (.int .i64 3))] rfl [(0, .int .i64 3)] rfl (eagg (kindE 3)) built_kind3 ?_))
  refine (entryDecides (kindE 2) rfl _).mono ?_
  rintro e w3 ⟨rfl, hb3⟩
  have HB3 := Lib.hid (HB2.out.trans ((HB0.out.trans (HB5.out.trans (hb3.mono (by omega)))).mono HB2.out.size))
  clear hb3
  rw [show (rightE (kindE 2) && (kindE 2).k != 3) = true from by rfl]
  go_wp2_with (refine wpList_build_l rfl 68 [(0, .const (.int .i64 3))] rfl [(0, .int .i64 3)] rfl (eagg (kindE 3)) built_kind3 ?_)
  refine (entryDecides (kindE 3) rfl _).mono ?_
  rintro e w4 ⟨rfl, hb4⟩
  have HB4 := Lib.hid (HB3.out.trans (hb4.mono HB3.out.size))
  clear hb4
  rw [show (rightE (kindE 3) && (kindE 3).k != 3) = false from by rfl]
  go_wp2
  go_ret
  exact ⟨rfl, HB4.out⟩
end Go.Proofs.Ytogcnfhmcpkdcaa
