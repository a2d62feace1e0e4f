/-
  The statement VoteBytes, its walk.
-/
import Derived.Test.YtogcnfhmcpkdcaaVote8
import Derived.Test.YtogcnfhmcpkdcaaVote10
namespace Go.Proofs.Ytogcnfhmcpkdcaa
open Go.RowKit
set_option linter.unusedVariables false
set_option linter.unusedSimpArgs false

theorem ballot_again {t f : Nat} (ht : t ≤ 1099511627776) (hf : f ≤ 7) : getBallot (putBallot t f) = .ok (t, f) [] := by
  have h1 := getNum_put 1099511627776 t (putNum f) (by omega) ht
  have h2 := getNum_put 7 f [] (by omega) hf
  rw [List.append_nil] at h2
  simp [getBallot, putBallot, h1, h2]

theorem right_nat {bt bf : Int} (h : rightBallot bt bf = true) : ∃ t f : Nat, bt = t ∧ bf = (f : Int) - 1 ∧ t ≤ 1099511627776 ∧ f ≤ 7 := by
  simp [rightBallot, isWho] at h
  exact ⟨bt.toNat, (bf + 1).toNat, by omega, by omega, by omega, by omega⟩

set_option maxRecDepth 100000 in
set_option maxHeartbeats 4000000 in
theorem voteBytes_calls (bt bf : Int) (l : List UInt8) (a : Option Addr) (n c : Nat) (w : World) (hn : n = l.length) (h : n ≤ 40 → BsAt w w.heap.size a n c l) :
    Calls Try.prog 23 #[.agg #[.int .i64 bt, .int .i64 bf], .slice a n c] w fun e w' => e = .returned (.bool true) ∧ Below w.heap.size w w' := by
  subst hn
  have hb0 : Below w.heap.size w (w.alloc (.cells #[.int .i64 bt, .int .i64 bf] 128)) := (Below.refl _ w).alloc (Nat.le_refl _) _
  have HB0 := Lib.hid hb0
  clear hb0
  by_cases h40 : l.length ≤ 40
  · have t1 : decide ((40 : Int) < (l.length : Int)) = false := by simp; omega
    have hbs := h h40
    have HBS := Lib.hid hbs
    obtain ⟨O, hO⟩ : ∃ O, O = ballotOut (getBallot l) := ⟨_, rfl⟩
    have HO := Lib.hid hO
    clear h hbs hO
    cases hr : rightBallot bt bf with
    | false =>
      have HR := Lib.hid hr
      clear hr
      go_enter Try.func23, Try.ntmps23
      go_wp2_with fail
      refine (votePut_no bt bf HR.out _).mono ?_
      rintro e w1 ⟨rfl, hb1⟩
      have hs1 := hb1.size
      simp only [World.size_alloc] at hs1
      have hs1' : w.heap.size < w1.heap.size := by omega
      have d0 : w1.heap[w.heap.size]? = some (.cells #[.int .i64 bt, .int .i64 bf] 128 (0, 0)) := (hb1.block _ (by simp)).trans (heap_alloc_new w _)
      have c0 : w1.cell? ⟨w.heap.size, 0, none⟩ = some (.int .i64 bt) := by rw [cell_of_row _ _ _ _ _ _ d0]; rfl
      have c1 : w1.cell? ⟨w.heap.size, 1, none⟩ = some (.int .i64 bf) := by rw [cell_of_row _ _ _ _ _ _ d0]; rfl
      have HB1 := Lib.hid (HB0.out.trans (hb1.mono (by simp)))
      have HD0 := Lib.hid d0
      clear hb1 d0
      go_wp2_with fail
      refine (refVoteRight bt bf _).mono ?_
      rintro e w2 ⟨rfl, hb2⟩
      have HB2 := Lib.hid (HB1.out.trans (hb2.mono (by omega)))
      have d1 := (hb2.block _ hs1').trans HD0.out
      have hs2 := hb2.size
      have e0 : w2.cell? ⟨w.heap.size, 0, none⟩ = some (.int .i64 bt) := by rw [cell_of_row _ _ _ _ _ _ d1]; rfl
      have e1 : w2.cell? ⟨w.heap.size, 1, none⟩ = some (.int .i64 bf) := by rw [cell_of_row _ _ _ _ _ _ d1]; rfl
      clear hb2 d1 c0 c1
      rw [HR.out]
      go_wp2_with fail
      refine (voteRight_calls bt bf _).mono ?_
      rintro e w3 ⟨rfl, hb3⟩
      have HB3 := Lib.hid (HB2.out.trans (hb3.mono (by omega)))
      have hs3 := hb3.size
      clear hb3 e0 e1
      rw [HR.out]
      go_wp2_with fail
      refine (voteRead l a l.length c _ ((HBS.out.below HB3.out (Nat.le_refl _)).mono HB3.out.size)).mono ?_
      rintro e w4 ⟨rfl, hb4⟩
      have HB4 := Lib.hid (HB3.out.trans (hb4.mono (by omega)))
      have hs4 := hb4.size
      clear hb4
      rw [← HO.out]
      obtain ⟨o1, o2, o3⟩ := O
      simp only
      go_wp2_with fail
      have hb5 : Below w4.heap.size w4 (w4.alloc (.cells #[.int .i64 o1, .int .i64 o2] 128)) := (Below.refl _ w4).alloc (Nat.le_refl _) _
      have hbl5 := HB4.out.trans (hb5.mono (by omega))
      refine (refVoteRead l a l.length c _ ((HBS.out.below hbl5 (Nat.le_refl _)).mono hbl5.size)).mono ?_
      rintro e w6 ⟨rfl, hb6⟩
      rw [← HO.out]
      simp only
      have hs6 := hb6.size
      simp only [World.size_alloc] at hs6
      have hs6' : w4.heap.size < w6.heap.size := by omega
      have d6 : w6.heap[w4.heap.size]? = some (.cells #[.int .i64 o1, .int .i64 o2] 128 (0, 0)) := (hb6.block _ (by simp)).trans (heap_alloc_new w4 _)
      have c6 : w6.cell? ⟨w4.heap.size, 0, none⟩ = some (.int .i64 o1) := by rw [cell_of_row _ _ _ _ _ _ d6]; rfl
      have c7 : w6.cell? ⟨w4.heap.size, 1, none⟩ = some (.int .i64 o2) := by rw [cell_of_row _ _ _ _ _ _ d6]; rfl
      have HB6 := Lib.hid (hbl5.trans (hb6.mono (by simp; omega)))
      clear hb5 hbl5 hb6 d6
      go_wp2_with fail
      refine (l16awake_calls _).mono ?_
      rintro e w7 ⟨rfl, hb7⟩
      have HB7 := Lib.hid (HB6.out.trans ((((Below.refl _ w6).alloc (Nat.le_refl _) _).trans (hb7.mono (by simp))).mono (by omega)))
      clear hb7
      go_wp2
      go_ret
      exact ⟨rfl, HB7.out⟩
    | true =>
      obtain ⟨t, f, rfl, rfl, ht, hf⟩ := right_nat hr
      have HR := Lib.hid hr
      clear hr
      have hpl : (putBallot t f).length ≤ 100 := by have := putNum_len (show t < 18446744073709551616 by omega); have := putNum_len (show f < 18446744073709551616 by omega); simp [putBallot]; omega
      go_enter Try.func23, Try.ntmps23
      go_wp2_with fail
      refine (votePut_yes t f HR.out ht hf _).mono ?_
      rintro e w1 ⟨pa, pc, rfl, hpb, hb1⟩
      have hs1 := hb1.size
      simp only [World.size_alloc] at hs1
      have hs1' : w.heap.size < w1.heap.size := by omega
      have d0 : w1.heap[w.heap.size]? = some (.cells #[.int .i64 t, .int .i64 ((f : Int) - 1)] 128 (0, 0)) := (hb1.block _ (by simp)).trans (heap_alloc_new w _)
      have c0 : w1.cell? ⟨w.heap.size, 0, none⟩ = some (.int .i64 t) := by rw [cell_of_row _ _ _ _ _ _ d0]; rfl
      have c1 : w1.cell? ⟨w.heap.size, 1, none⟩ = some (.int .i64 ((f : Int) - 1)) := by rw [cell_of_row _ _ _ _ _ _ d0]; rfl
      have HB1 := Lib.hid (HB0.out.trans (hb1.mono (by simp)))
      have HD0 := Lib.hid d0
      have HPB := Lib.hid hpb
      clear hb1 d0 hpb
      go_wp2_with fail
      refine (refVoteRight _ _ _).mono ?_
      rintro e w2 ⟨rfl, hb2⟩
      have HBb2 := Lib.hid hb2
      have HB2 := Lib.hid (HB1.out.trans (hb2.mono (by omega)))
      have d1 := (hb2.block _ hs1').trans HD0.out
      have hs2 := hb2.size
      have hs2' : w.heap.size < w2.heap.size := by omega
      have e0 : w2.cell? ⟨w.heap.size, 0, none⟩ = some (.int .i64 t) := by rw [cell_of_row _ _ _ _ _ _ d1]; rfl
      have e1 : w2.cell? ⟨w.heap.size, 1, none⟩ = some (.int .i64 ((f : Int) - 1)) := by rw [cell_of_row _ _ _ _ _ _ d1]; rfl
      have HD1 := Lib.hid d1
      clear hb2 d1 c0 c1
      rw [HR.out]
      go_wp2_with fail
      refine (voteRight_calls _ _ _).mono ?_
      rintro e w3 ⟨rfl, hb3⟩
      have HBb3 := Lib.hid (HBb2.out.trans (hb3.mono hs2))
      have HB3 := Lib.hid (HB2.out.trans (hb3.mono (by omega)))
      have d2 := (hb3.block _ hs2').trans HD1.out
      have hs3 := hb3.size
      have hs3' : w.heap.size < w3.heap.size := by omega
      have HD2 := Lib.hid d2
      clear hb3 d2 e0 e1
      rw [HR.out]
      go_wp2_with fail
      refine (voteRead (putBallot t f) pa (putBallot t f).length pc _ ((HPB.out.below HBb3.out (Nat.le_refl _)).mono HBb3.out.size)).mono ?_
      rintro e w4 ⟨rfl, hb4⟩
      have HBb4 := Lib.hid (HBb3.out.trans (hb4.mono (by omega)))
      have HB4 := Lib.hid (HB3.out.trans (hb4.mono (by omega)))
      have d3 := (hb4.block _ hs3').trans HD2.out
      have hs4 := hb4.size
      have hs4' : w.heap.size < w4.heap.size := by omega
      have e0 : w4.cell? ⟨w.heap.size, 0, none⟩ = some (.int .i64 t) := by rw [cell_of_row _ _ _ _ _ _ d3]; rfl
      have e1 : w4.cell? ⟨w.heap.size, 1, none⟩ = some (.int .i64 ((f : Int) - 1)) := by rw [cell_of_row _ _ _ _ _ _ d3]; rfl
      have HD3 := Lib.hid d3
      have hbo : ballotOut (getBallot (putBallot t f)) = ((t : Int), (f : Int) - 1, 0) := by rw [ballot_again ht hf]; rfl
      rw [hbo]
      simp only
      clear hb4 d3 hbo
      go_wp2_with fail
      have hb5 : Below w4.heap.size w4 (w4.alloc (.cells #[.int .i64 t, .int .i64 ((f : Int) - 1)] 128)) := (Below.refl _ w4).alloc (Nat.le_refl _) _
      refine (refVotePut t f (by omega) (by omega) hf _).mono ?_
      rintro e w5 ⟨qa, qc, rfl, hqb, hb6⟩
      have hs5 := hb6.size
      simp only [World.size_alloc] at hs5
      have hb56 := hb5.trans (hb6.mono (by simp))
      have HBb5 := Lib.hid (HBb4.out.trans (hb56.mono (by omega)))
      have HB5 := Lib.hid (HB4.out.trans (hb56.mono (by omega)))
      have HQB := Lib.hid hqb
      clear hb5 hb6 hb56 hqb e0 e1
      go_wp2_with fail
      refine (r1Bytes (putBallot t f) (putBallot t f) pa qa _ pc _ qc _ ((HPB.out.below HBb5.out (Nat.le_refl _)).mono HBb5.out.size) HQB.out).mono ?_
      rintro e w6 ⟨rfl, hb6⟩
      have HB6 := Lib.hid (HB5.out.trans (hb6.mono (by omega)))
      have hs6 := hb6.size
      clear hb6
      simp only [decide_true]
      go_wp2_with fail
      refine (voteRead l a l.length c _ ((HBS.out.below HB6.out (Nat.le_refl _)).mono HB6.out.size)).mono ?_
      rintro e w7 ⟨rfl, hb7⟩
      have HB7 := Lib.hid (HB6.out.trans (hb7.mono (by omega)))
      have hs7 := hb7.size
      clear hb7
      rw [← HO.out]
      obtain ⟨o1, o2, o3⟩ := O
      simp only
      go_wp2_with fail
      have hb75 : Below w7.heap.size w7 (w7.alloc (.cells #[.int .i64 o1, .int .i64 o2] 128)) := (Below.refl _ w7).alloc (Nat.le_refl _) _
      have hbl75 := HB7.out.trans (hb75.mono (by omega))
      refine (refVoteRead l a l.length c _ ((HBS.out.below hbl75 (Nat.le_refl _)).mono hbl75.size)).mono ?_
      rintro e w8 ⟨rfl, hb8⟩
      rw [← HO.out]
      simp only
      have hs8 := hb8.size
      simp only [World.size_alloc] at hs8
      have hs8' : w7.heap.size < w8.heap.size := by omega
      have d6 : w8.heap[w7.heap.size]? = some (.cells #[.int .i64 o1, .int .i64 o2] 128 (0, 0)) := (hb8.block _ (by simp)).trans (heap_alloc_new w7 _)
      have c6 : w8.cell? ⟨w7.heap.size, 0, none⟩ = some (.int .i64 o1) := by rw [cell_of_row _ _ _ _ _ _ d6]; rfl
      have c7 : w8.cell? ⟨w7.heap.size, 1, none⟩ = some (.int .i64 o2) := by rw [cell_of_row _ _ _ _ _ _ d6]; rfl
      have HB8 := Lib.hid (hbl75.trans (hb8.mono (by simp; omega)))
      clear hb75 hbl75 hb8 d6
      go_wp2_with fail
      refine (l16awake_calls _).mono ?_
      rintro e w9 ⟨rfl, hb9⟩
      have HB9 := Lib.hid (HB8.out.trans ((((Below.refl _ w8).alloc (Nat.le_refl _) _).trans (hb9.mono (by simp))).mono (by omega)))
      clear hb9
      go_wp2
      go_ret
      exact ⟨rfl, HB9.out⟩
  · have t1 : decide ((40 : Int) < (l.length : Int)) = true := by simp; omega
    go_enter Try.func23, Try.ntmps23
    go_wp2_with fail
    refine (l16awake_calls _).mono ?_
    rintro e w1 ⟨rfl, hb⟩
    go_wp2
    go_ret
    exact ⟨rfl, HB0.out.trans (hb.mono (by simp))⟩
end Go.Proofs.Ytogcnfhmcpkdcaa
