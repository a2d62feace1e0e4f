/-
  Contracts of vote.Read and of the reference's Read and Right of ballots.
-/
import Derived.Test.YtogcnfhmcpkdcaaVote7
import Derived.Test.YtogcnfhmcpkdcaaWideOps
import Derived.Deep.RegionWith
namespace Go.Proofs.Ytogcnfhmcpkdcaa
open Go.RowKit
set_option linter.unusedVariables false
set_option linter.unusedSimpArgs false
attribute [local go_sem ↓] Go.wp_at_zero Go.wp_at_succ

set_option maxRecDepth 100000 in
set_option maxHeartbeats 2000000 in
theorem voteRead1 (q p : Nat) (x0 x1 : Int) (l : List UInt8) (w : World) (h : EyeAt w q l) (hp : p < w.heap.size) (hpq : p ≠ q) (hc : w.heap[p]? = some (.cells #[.int .i64 x0, .int .i64 x1] 128 (0, 0))) :
    Calls Try.prog 148 #[.pointer (some ⟨q, 0, none⟩), .pointer (some ⟨p, 0, none⟩)] w fun e w' => ReadsTo q p (getBallot l) w w' e fun v => w'.heap[p]? = some (.cells #[.int .i64 v.1, .int .i64 ((v.2 : Int) - 1)] 128 (0, 0)) := by
  obtain ⟨N, hN⟩ : ∃ N, N = getBallot l := ⟨_, rfl⟩
  rw [← hN]
  have HN := Lib.hid hN
  have HC := Lib.hid hc
  clear hN hc
  go_enter Try.func148, Try.ntmps148
  go_wp2_with fail
  refine (eyeNum q 1099511627776 _ _ h).mono ?_
  rintro e w1 ⟨hb1, hr1⟩
  cases hg1 : getNum 1099511627776 l with
  | err x =>
    rw [hg1] at hr1
    obtain rfl : e = broke x := hr1
    have hN : N = .err x := by rw [HN.out, getBallot, hg1]; rfl
    subst hN
    clear hg1
    go_wp2
    exact ⟨rfl, .of_but hb1⟩
  | ok t r =>
    rw [hg1] at hr1
    obtain ⟨rfl, heye1⟩ := hr1
    have htm := getNum_most hg1
    have hN : N = (getNum 7 r).bind fun f r' => .ok (t, f) r' := by rw [HN.out, getBallot, hg1]; rfl
    have HN1 := Lib.hid hN
    have HB1 := Lib.hid hb1
    clear hg1 hN HN hb1 h
    go_wp2_with fail
    refine (eyeNum q 7 _ _ heye1).mono ?_
    rintro e w2 ⟨hb2, hr2⟩
    cases hg2 : getNum 7 r with
    | err x =>
      rw [hg2] at hr2
      obtain rfl : e = broke x := hr2
      have hN : N = .err x := by rw [HN1.out, hg2]; rfl
      subst hN
      clear hg2
      go_wp2
      exact ⟨rfl, .of_but (HB1.out.trans hb2)⟩
    | ok f r' =>
      rw [hg2] at hr2
      obtain ⟨rfl, heye2⟩ := hr2
      have hfm := getNum_most hg2
      have hN : N = .ok (t, f) r' := by rw [HN1.out, hg2]; rfl
      subst hN
      have hbb := HB1.out.trans hb2
      have hc2 := (hbb.block p hp hpq).trans HC.out
      have hp2 : p < w2.heap.size := Nat.lt_of_lt_of_le hp hbb.size
      have c0 : w2.cell? ⟨p, 0, none⟩ = some (.int .i64 x0) := by rw [cell_of_row _ _ _ _ _ _ hc2]; rfl
      have c1 : w2.cell? ⟨p, 1, none⟩ = some (.int .i64 x1) := by rw [cell_of_row _ _ _ _ _ _ hc2]; rfl
      have f0 : w2.frozen? ⟨p, 0, none⟩ = false := frozen_of_row _ _ _ _ _ hc2
      have f1 : w2.frozen? ⟨p, 1, none⟩ = false := frozen_of_row _ _ _ _ _ hc2
      have HBB := Lib.hid hbb
      have HC2 := Lib.hid hc2
      have HE := Lib.hid heye2
      clear hg2 HN1 hb2 heye2 heye1 hbb hc2
      go_wp2
      go_end0
      have h1 := heap_setCell_same w2 p 0 _ _ (.int .i64 (t : Int)) HC2.out
      have h2 := heap_setCell_same _ p 1 _ _ (.int .i64 ((f : Int) - 1)) h1
      have hoth : ∀ k, k ≠ p → ((w2.setCell ⟨p, 0, none⟩ (.int .i64 (t : Int))).setCell ⟨p, 1, none⟩ (.int .i64 ((f : Int) - 1))).heap[k]? = w2.heap[k]? := fun k hk => (heap_setCell_other _ _ _ _ hk).trans (heap_setCell_other _ _ _ _ hk)
      refine ⟨HBB.out.os, HBB.out.tape, HBB.out.output, by have := HBB.out.size; simpa using this, fun k hk hkq hkp => (hoth k hkp).trans (HBB.out.block k hk hkq), (fun _ hh => by cases hh), fun v rest hh => ?_⟩
      cases hh
      refine ⟨rfl, ?_, h2⟩
      have e1 := HE.out.setOther (o := 0) hpq (cell_of_row _ _ 0 _ _ _ HC2.out) (fun c e => by cases e) (.int .i64 (t : Int))
      exact e1.setOther (o := 1) hpq (cell_of_row _ _ 1 _ _ _ h1) (fun c e => by cases e) _

theorem infoBallot : (Try.prog.info? 128).map (·.size) = some 2 := by kernel_rfl

/-- what a reading of a ballot hands back: term, whom, the error's number -/
def ballotOut (r : Res (Nat × Nat)) : Int × Int × Int :=
  match r with
  | .err x => (0, 0, x)
  | .ok v rest => if rest = [] then (v.1, (v.2 : Int) - 1, 0) else (0, 0, 3)

set_option maxRecDepth 100000 in
set_option maxHeartbeats 2000000 in
theorem voteRead (l : List UInt8) (a : Option Addr) (n c : Nat) (w : World) (h : BsAt w w.heap.size a n c l) :
    Calls Try.prog 92 #[.slice a n c] w fun e w' => e = .returned (.tuple #[.agg #[.int .i64 (ballotOut (getBallot l)).1, .int .i64 (ballotOut (getBallot l)).2.1], .int .i64 (ballotOut (getBallot l)).2.2]) ∧ Below w.heap.size w w' := by
  obtain ⟨R, hR⟩ : ∃ R, R = getBallot l := ⟨_, rfl⟩
  have hsane := sane_ballot l
  rw [← hR] at hsane ⊢
  have HR := Lib.hid hR
  have HS := Lib.hid hsane
  have H := Lib.hid h
  clear hR hsane h
  go_enter Try.func92, Try.ntmps92
  go_wp2_with fail
  obtain ⟨W0, hW0⟩ : ∃ W0, W0 = (w.alloc (.cells #[.int .i64 0, .int .i64 0] 128)).alloc (.cells #[.int .i64 0, .int .i64 0] 128) := ⟨_, rfl⟩
  rw [← hW0]
  have hb0 : Below w.heap.size w W0 := by rw [hW0]; exact ((Below.refl _ w).alloc (Nat.le_refl _) _).alloc (by simp) _
  have hs0 : W0.heap.size = w.heap.size + 2 := by rw [hW0]; simp
  have hc0 : W0.heap[w.heap.size]? = some (.cells #[.int .i64 0, .int .i64 0] 128 (0, 0)) := by rw [hW0]; exact heap_alloc2_old _ _ _
  have hc1 : W0.heap[w.heap.size + 1]? = some (.cells #[.int .i64 0, .int .i64 0] 128 (0, 0)) := by rw [hW0]; exact heap_alloc2_new _ _ _
  have HB0 := Lib.hid hb0
  have HC0 := Lib.hid hc0
  have HC1 := Lib.hid hc1
  clear hW0 hb0 hc0 hc1
  refine (fieldReadTo R HS.out l a n c 148 (enterOf Try.func148 (by kernel_rfl) rfl) #[] #[.pointer (some ⟨w.heap.size + 1, 0, none⟩)] (w.heap.size + 1) W0 (by omega) ((H.out.below HB0.out (Nat.le_refl _)).mono HB0.out.size)
    (fun _ w' v => w'.heap[w.heap.size + 1]? = some (.cells #[.int .i64 v.1, .int .i64 ((v.2 : Int) - 1)] 128 (0, 0))) ?_).mono ?_
  · intro q w1 hb hq he
    show Calls _ 148 #[.pointer (some ⟨q, 0, none⟩), .pointer (some ⟨w.heap.size + 1, 0, none⟩)] w1 _
    rw [HR.out]
    exact voteRead1 q (w.heap.size + 1) 0 0 l w1 he (by have := hb.size; omega) (by omega) ((hb.block _ (by omega)).trans HC1.out)
  · rintro e w2 ⟨rfl, hg, hok⟩
    have hb2 : Below w.heap.size w w2 := HB0.out.trans ((Below.refl _ W0).grown hg (by omega) (fun k e => by cases e; omega))
    have hs2 := hg.size
    have d0 : w2.heap[w.heap.size]? = some (.cells #[.int .i64 0, .int .i64 0] 128 (0, 0)) := (hg.block w.heap.size (by omega) (by simp)).trans HC0.out
    have c0 : w2.cell? ⟨w.heap.size, 0, none⟩ = some (.int .i64 0) := by rw [cell_of_row _ _ _ _ _ _ d0]; rfl
    have c1 : w2.cell? ⟨w.heap.size, 1, none⟩ = some (.int .i64 0) := by rw [cell_of_row _ _ _ _ _ _ d0]; rfl
    have f0 : w2.frozen? ⟨w.heap.size, 0, none⟩ = false := frozen_of_row _ _ _ _ _ d0
    have f1 : w2.frozen? ⟨w.heap.size, 1, none⟩ = false := frozen_of_row _ _ _ _ _ d0
    have HB2 := Lib.hid hb2
    have HOK := Lib.hid hok
    have hfr : ∀ u v, Below w.heap.size w ((w2.setCell ⟨w.heap.size, 0, none⟩ u).setCell ⟨w.heap.size, 1, none⟩ v) := fun u v => (hb2.setCell (Nat.le_refl _) _).setCell (Nat.le_refl _) _
    have hrw : ∀ u v, ((w2.setCell ⟨w.heap.size, 0, none⟩ u).setCell ⟨w.heap.size, 1, none⟩ v).heap[w.heap.size]? = some (.cells #[u, v] 128 (0, 0)) := fun u v => heap_setCell_same _ _ 1 _ _ v (heap_setCell_same _ _ 0 _ _ u d0)
    have HRW := Lib.hid hrw
    clear hrw
    have HF := Lib.hid hfr
    clear hg hok hb2 hfr d0
    by_cases hz : R.code = 0
    · obtain ⟨v, hv⟩ : ∃ v, R = .ok v [] := by
        cases hR : R with
        | err x => rw [hR] at hz; exact absurd hz (HS.out x hR)
        | ok v rest =>
          rw [hR] at hz
          by_cases hr : rest = []
          · exact ⟨v, by rw [hr]⟩
          · simp [Res.code, hr] at hz
      obtain ⟨w1, w', rb, k1, k2, k3, k4, k5, k6⟩ := HOK.out v hv
      have k7 := k4.size
      have d1 : w2.heap[w.heap.size + 1]? = some (.cells #[.int .i64 v.1, .int .i64 ((v.2 : Int) - 1)] 128 (0, 0)) := (k6.block _ (by omega) (by omega)).trans k5
      have c2 : w2.cell? ⟨w.heap.size + 1, 0, none⟩ = some (.int .i64 v.1) := by rw [cell_of_row _ _ _ _ _ _ d1]; rfl
      have c3 : w2.cell? ⟨w.heap.size + 1, 1, none⟩ = some (.int .i64 ((v.2 : Int) - 1)) := by rw [cell_of_row _ _ _ _ _ _ d1]; rfl
      have t1 : (R.code != 0) = false := by simp [hz]
      have ho : ballotOut R = ((v.1 : Int), (v.2 : Int) - 1, 0) := by rw [hv]; rfl
      have HO := Lib.hid ho
      have HZ := Lib.hid hz
      clear hz hv k4 k5 k6 d1 ho
      go_wp2
      refine bodyPost_ret (results_row_tmp rfl _ _ w.heap.size 128 _ (0, 0) _ rfl (HRW.out _ _) Try.underlying128 rfl infoBallot) rfl ⟨by rw [HO.out]; rfl, HF.out _ _⟩
    · have t1 : (R.code != 0) = true := by simpa using hz
      have ho : ballotOut R = (0, 0, R.code) := by
        cases hR : R with
        | err x => rfl
        | ok v rest =>
          rw [hR] at hz
          by_cases hr : rest = []
          · simp [Res.code, hr] at hz
          · simp [ballotOut, Res.code, hr]
      have HO := Lib.hid ho
      have HZ := Lib.hid hz
      clear hz ho
      go_wp2
      refine bodyPost_ret (results_row_tmp rfl _ _ w.heap.size 128 _ (0, 0) _ rfl (HRW.out _ _) Try.underlying128 rfl infoBallot) rfl ⟨by rw [HO.out]; rfl, HF.out _ _⟩
end Go.Proofs.Ytogcnfhmcpkdcaa
