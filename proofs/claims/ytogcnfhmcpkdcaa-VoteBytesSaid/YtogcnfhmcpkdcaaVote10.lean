/-
  Contracts of the reference's Read and Right of ballots.
-/
import Derived.Test.YtogcnfhmcpkdcaaVote9
import Derived.Test.YtogcnfhmcpkdcaaGotLaw
namespace Go.Proofs.Ytogcnfhmcpkdcaa
open Go.RowKit
set_option linter.unusedVariables false
set_option linter.unusedSimpArgs false

theorem two_set {W : World} {g : Nat} {x0 x1 : Value} {T : TypeId} (h : W.heap[g]? = some (.cells #[x0, x1] T (0, 0))) (u v : Value) :
    ((W.setCell ⟨g, 0, none⟩ u).setCell ⟨g, 1, none⟩ v).heap[g]? = some (.cells #[u, v] T (0, 0)) := heap_setCell_same _ _ 1 _ _ v (heap_setCell_same _ _ 0 _ _ u h)

set_option maxRecDepth 100000 in
set_option maxHeartbeats 4000000 in
theorem refVoteRead (l : List UInt8) (a : Option Addr) (n c : Nat) (w : World) (h : BsAt w w.heap.size a n c l) :
    Calls Try.prog 94 #[.slice a n c] w fun e w' => e = .returned (.tuple #[.agg #[.int .i64 (ballotOut (getBallot l)).1, .int .i64 (ballotOut (getBallot l)).2.1], .int .i64 (ballotOut (getBallot l)).2.2]) ∧ Below w.heap.size w w' := by
  obtain ⟨O, hO⟩ : ∃ O, O = ballotOut (getBallot l) := ⟨_, rfl⟩
  rw [← hO]
  have HO := Lib.hid hO
  have H := Lib.hid h
  clear hO h
  go_enter Try.func94, Try.ntmps94
  go_wp2_with fail
  have hb0 : Below w.heap.size w (w.alloc (.cells #[.int .i64 0, .int .i64 0] 128)) := (Below.refl _ w).alloc (Nat.le_refl _) _
  refine (refTake 0 l a n c _ 1099511627776 (by rfl) _ ((H.out.below hb0 (Nat.le_refl _)).mono hb0.size)).mono ?_
  rintro e w1 ⟨gs, rfl, hgs, hb1⟩
  have hs1 := hb1.size
  simp only [World.size_alloc] at hs1
  have hd0 : w1.heap[w.heap.size]? = some (.cells #[.int .i64 0, .int .i64 0] 128 (0, 0)) := (hb1.block _ (by simp)).trans (heap_alloc_new w _)
  have hdl := takeP_d 0 1099511627776 l
  obtain ⟨hz1, hone1⟩ := hgs.parts hdl
  have HGS := Lib.hid hgs
  have HZ1 := Lib.hid hz1
  have HONE1 := Lib.hid hone1
  have HD0 := Lib.hid hd0
  have HB1 := Lib.hid (hb0.trans (hb1.mono (by simp)))
  clear hb1 hgs hz1 hone1 hd0 hb0 hdl
  have hs1' : w.heap.size < w1.heap.size := by omega
  cases hg1 : getNum 1099511627776 l with
  | err x =>
    have hx : x ≠ 0 := by have := getNum_errs hg1; omega
    have hG := HGS.out
    rw [takeP_num_err hg1] at hG
    have hO : O = (0, 0, x) := by rw [HO.out, getBallot, hg1]; rfl
    subst hO
    have HG := Lib.hid hG
    have t1 : (x != 0) = true := by simpa using hx
    clear hG hg1 HGS hx
    go_wp2_with (refine wpList_store_new rfl 61 (.tmp 4) _ rfl gs rfl rfl 61 _ (by rw [HZ1.out]; exact infoGot) HZ1.out.symm HONE1.out ?_; intro W2 hrow2 hb2 hs2; obtain ⟨a1, c1, a2, c2, hga, -, -, -, k3, k4⟩ := HG.out.lay (by simp [zeros32]) (by simp; omega) hrow2 hb2; have HGA := Lib.hid hga; have HB2 := Lib.hid hb2; clear hga hrow2 hb2)
    have hd2 := (HB2.out.block w.heap.size hs1').trans HD0.out
    have c0 : W2.cell? ⟨w.heap.size, 0, none⟩ = some (.int .i64 0) := by rw [cell_of_row _ _ _ _ _ _ hd2]; rfl
    have c1 : W2.cell? ⟨w.heap.size, 1, none⟩ = some (.int .i64 0) := by rw [cell_of_row _ _ _ _ _ _ hd2]; rfl
    have f0 : W2.frozen? ⟨w.heap.size, 0, none⟩ = false := frozen_of_row _ _ _ _ _ hd2
    have f1 : W2.frozen? ⟨w.heap.size, 1, none⟩ = false := frozen_of_row _ _ _ _ _ hd2
    have HD2 := Lib.hid hd2
    clear hd2
    go_region
    all_goals
      go_wp2
      refine bodyPost_ret (results_row_tmp rfl _ _ w.heap.size 128 _ (0, 0) _ rfl (two_set HD2.out _ _) Try.underlying128 rfl infoBallot) rfl ⟨rfl, ?_⟩
      exact (((HB1.out.trans (HB2.out.mono (by omega))).setCell (Nat.le_refl _) _).setCell (Nat.le_refl _) _).drew
  | ok t r =>
    have ht := getNum_most hg1
    have hG := HGS.out
    rw [takeP_num_ok hg1] at hG
    have hO : O = ballotOut ((getNum 7 r).bind fun f r' => .ok (t, f) r') := by rw [HO.out, getBallot, hg1]; rfl
    have HO2 := Lib.hid hO
    have HG := Lib.hid hG
    clear hG hg1 HGS HO hO
    go_wp2_with (refine wpList_store_new rfl 61 (.tmp 4) _ rfl gs rfl rfl 61 _ (by rw [HZ1.out]; exact infoGot) HZ1.out.symm HONE1.out ?_; intro W2 hrow2 hb2 hs2; obtain ⟨a1, c1, a2, c2, hga, -, k1, -, k3, k4⟩ := HG.out.lay (by simp [zeros32]) (by simp; omega) hrow2 hb2; have HGA := Lib.hid hga; have HB2 := Lib.hid hb2; clear hga hrow2 hb2)
    have hd2 := (HB2.out.block w.heap.size hs1').trans HD0.out
    have HD2 := Lib.hid hd2
    have HBW2 := Lib.hid (HB1.out.trans (HB2.out.mono (by omega)))
    clear hd2
    refine (refTake 0 r a2 r.length c2 _ 7 (by rfl) _ (HGA.out.lf.mono (by simp; omega))).mono ?_
    rintro e w3 ⟨gs3, rfl, hgs3, hb3⟩
    have hs3 := hb3.size
    obtain ⟨hz3, hone3⟩ := hgs3.parts (takeP_d 0 7 r)
    have HGS3 := Lib.hid hgs3
    have HZ3 := Lib.hid hz3
    have HONE3 := Lib.hid hone3
    have HB3 := Lib.hid hb3
    have hs3' : w.heap.size < w3.heap.size := by omega
    have m1 : w3.cell? ⟨w1.heap.size, 1, none⟩ = some (.int .u64 t) := by rw [hb3.cell (p := ⟨w1.heap.size, 1, none⟩) (by show w1.heap.size < _; omega)]; exact k1
    have hs3'' : w1.heap.size < w3.heap.size := by omega
    clear hb3 hgs3 hz3 hone3 k1 k3 k4
    cases hg3 : getNum 7 r with
    | err x =>
      have hx : x ≠ 0 := by have := getNum_errs hg3; omega
      have hG3 := HGS3.out
      rw [takeP_num_err hg3] at hG3
      have hO : O = (0, 0, x) := by rw [HO2.out, hg3]; rfl
      subst hO
      have HG3 := Lib.hid hG3
      have t2 : (x != 0) = true := by simpa using hx
      clear hG3 hg3 HGS3 hx m1
      go_wp2_with (refine wpList_store_new rfl 61 (.tmp 5) _ rfl gs3 rfl rfl 61 _ (by rw [HZ3.out]; exact infoGot) HZ3.out.symm HONE3.out ?_; intro W4 hrow4 hb4 hs4; obtain ⟨a3, c3, a4, c4, hga4, -, -, -, k3, k4⟩ := HG3.out.lay (by simp [zeros32]) (by omega) hrow4 hb4; have HGA4 := Lib.hid hga4; have HB4 := Lib.hid hb4; clear hga4 hrow4 hb4)
      have hd4 := (HB4.out.block w.heap.size hs3').trans ((HB3.out.block w.heap.size (by omega)).trans HD2.out)
      have c0 : W4.cell? ⟨w.heap.size, 0, none⟩ = some (.int .i64 0) := by rw [cell_of_row _ _ _ _ _ _ hd4]; rfl
      have c1 : W4.cell? ⟨w.heap.size, 1, none⟩ = some (.int .i64 0) := by rw [cell_of_row _ _ _ _ _ _ hd4]; rfl
      have f0 : W4.frozen? ⟨w.heap.size, 0, none⟩ = false := frozen_of_row _ _ _ _ _ hd4
      have f1 : W4.frozen? ⟨w.heap.size, 1, none⟩ = false := frozen_of_row _ _ _ _ _ hd4
      have HD4 := Lib.hid hd4
      clear hd4
      go_region
      all_goals
        go_wp2
        refine bodyPost_ret (results_row_tmp rfl _ _ w.heap.size 128 _ (0, 0) _ rfl (two_set HD4.out _ _) Try.underlying128 rfl infoBallot) rfl ⟨rfl, ?_⟩
        exact ((((HBW2.out.trans (HB3.out.mono (by omega))).trans (HB4.out.mono (by omega))).setCell (Nat.le_refl _) _).setCell (Nat.le_refl _) _).drew
    | ok f r' =>
      have hf := getNum_most hg3
      have hG3 := HGS3.out
      rw [takeP_num_ok hg3] at hG3
      have hO : O = ballotOut (.ok (t, f) r') := by rw [HO2.out, hg3]; rfl
      have HG3 := Lib.hid hG3
      have HO3 := Lib.hid hO
      clear hG3 hg3 HGS3 HO2 hO
      have hfin : ∀ W4 : World, Below w3.heap.size w3 W4 → ∀ u v, Below w.heap.size w ((W4.setCell ⟨w.heap.size, 0, none⟩ u).setCell ⟨w.heap.size, 1, none⟩ v) := fun W4 hb4 u v => ((((HBW2.out.trans (HB3.out.mono (by omega))).trans (hb4.mono (by omega))).setCell (Nat.le_refl _) _).setCell (Nat.le_refl _) _)
      have HF := Lib.hid hfin
      clear hfin
      by_cases hr : r' = []
      · have hO : O = ((t : Int), (f : Int) - 1, 0) := by rw [HO3.out, hr]; rfl
        subst hO
        have t5 : decide (0 < r'.length) = false := by simp [hr]
        have HR := Lib.hid hr
        clear hr
        go_wp2_with (refine wpList_store_new rfl 61 (.tmp 5) _ rfl gs3 rfl rfl 61 _ (by rw [HZ3.out]; exact infoGot) HZ3.out.symm HONE3.out ?_; intro W4 hrow4 hb4 hs4; obtain ⟨a3, c3, a4, c4, hga4, -, k1, -, k3, k4⟩ := HG3.out.lay (by simp [zeros32]) (by omega) hrow4 hb4; have HGA4 := Lib.hid hga4; have HB4 := Lib.hid hb4; have m2 : W4.cell? ⟨w1.heap.size, 1, none⟩ = some (.int .u64 t) := (by rw [hb4.cell (p := ⟨w1.heap.size, 1, none⟩) hs3'']; exact m1); have hd4 := (hb4.block w.heap.size hs3').trans ((HB3.out.block w.heap.size (by omega)).trans HD2.out); have c0 : W4.cell? ⟨w.heap.size, 0, none⟩ = some (.int .i64 0) := (by rw [cell_of_row _ _ _ _ _ _ hd4]; rfl); have c1 : W4.cell? ⟨w.heap.size, 1, none⟩ = some (.int .i64 0) := (by rw [cell_of_row _ _ _ _ _ _ hd4]; rfl); have f0 : W4.frozen? ⟨w.heap.size, 0, none⟩ = false := frozen_of_row _ _ _ _ _ hd4; have f1 : W4.frozen? ⟨w.heap.size, 1, none⟩ = false := frozen_of_row _ _ _ _ _ hd4; have HD4 := Lib.hid hd4; clear hga4 hrow4 hb4 hd4)
        refine bodyPost_ret (results_row_tmp rfl _ _ w.heap.size 128 _ (0, 0) _ rfl (two_set HD4.out _ _) Try.underlying128 rfl infoBallot) rfl ⟨rfl, HF.out _ HB4.out _ _⟩
      · have hO : O = (0, 0, 3) := by rw [HO3.out]; simp [ballotOut, hr]
        subst hO
        have t5 : decide (0 < r'.length) = true := by
          cases r' with
          | nil => exact absurd rfl hr
          | cons y ys => simp
        have HR := Lib.hid hr
        clear hr
        go_wp2_with (refine wpList_store_new rfl 61 (.tmp 5) _ rfl gs3 rfl rfl 61 _ (by rw [HZ3.out]; exact infoGot) HZ3.out.symm HONE3.out ?_; intro W4 hrow4 hb4 hs4; obtain ⟨a3, c3, a4, c4, hga4, -, k1, -, k3, k4⟩ := HG3.out.lay (by simp [zeros32]) (by omega) hrow4 hb4; have HGA4 := Lib.hid hga4; have HB4 := Lib.hid hb4; have m2 : W4.cell? ⟨w1.heap.size, 1, none⟩ = some (.int .u64 t) := (by rw [hb4.cell (p := ⟨w1.heap.size, 1, none⟩) hs3'']; exact m1); have hd4 := (hb4.block w.heap.size hs3').trans ((HB3.out.block w.heap.size (by omega)).trans HD2.out); have c0 : W4.cell? ⟨w.heap.size, 0, none⟩ = some (.int .i64 0) := (by rw [cell_of_row _ _ _ _ _ _ hd4]; rfl); have c1 : W4.cell? ⟨w.heap.size, 1, none⟩ = some (.int .i64 0) := (by rw [cell_of_row _ _ _ _ _ _ hd4]; rfl); have f0 : W4.frozen? ⟨w.heap.size, 0, none⟩ = false := frozen_of_row _ _ _ _ _ hd4; have f1 : W4.frozen? ⟨w.heap.size, 1, none⟩ = false := frozen_of_row _ _ _ _ _ hd4; have HD4 := Lib.hid hd4; clear hga4 hrow4 hb4 hd4)
        refine bodyPost_ret (results_row_tmp rfl _ _ w.heap.size 128 _ (0, 0) _ rfl (two_set HD4.out _ _) Try.underlying128 rfl infoBallot) rfl ⟨rfl, HF.out _ HB4.out _ _⟩

/-- the reference's rule of a right ballot -/
theorem refVoteRight (bt bf : Int) (w : World) :
    Calls Try.prog 90 #[.agg #[.int .i64 bt, .int .i64 bf]] w fun e w' => e = .returned (.bool (rightBallot bt bf)) ∧ Below w.heap.size w w' := by
  have hb : ∀ o1, Below w.heap.size w (w.alloc o1) := fun o1 => (Below.refl _ _).alloc (Nat.le_refl _) _
  have HB := Lib.hid hb
  clear hb
  have hall : ∃ x y z u : Bool, decide (0 ≤ bt) = x ∧ decide (bt ≤ 1099511627776) = y ∧ decide (-1 ≤ bf) = z ∧ decide (bf ≤ 6) = u := ⟨_, _, _, _, rfl, rfl, rfl, rfl⟩
  obtain ⟨x, y, z, u, h1, h2, h3, h4⟩ := hall
  have e1 : rightBallot bt bf = (x && y && z && u) := by
    rw [← h1, ← h2, ← h3, ← h4, Bool.eq_iff_iff]
    simp [rightBallot, isWho]
    omega
  rw [e1]
  have HE := Lib.hid e1
  clear e1
  cases x
  · go_enter Try.func90, Try.ntmps90
    go_wp2
    go_ret
    exact ⟨rfl, HB.out _⟩
  · cases y
    · go_enter Try.func90, Try.ntmps90
      go_wp2
      go_ret
      exact ⟨rfl, HB.out _⟩
    · cases z
      · go_enter Try.func90, Try.ntmps90
        go_wp2
        go_ret
        exact ⟨rfl, HB.out _⟩
      · cases u
        all_goals
          go_enter Try.func90, Try.ntmps90
          go_wp2
          go_ret
          exact ⟨rfl, HB.out _⟩
end Go.Proofs.Ytogcnfhmcpkdcaa
