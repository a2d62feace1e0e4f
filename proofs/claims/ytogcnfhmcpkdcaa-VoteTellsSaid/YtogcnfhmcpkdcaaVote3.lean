/-
  The law VoteTells: whatever the numbers, the ballot and the flag, the code of layer 16 answers as the reference. No condition.
-/
import Derived.Test.YtogcnfhmcpkdcaaVote2
namespace Go.Proofs.Ytogcnfhmcpkdcaa
open Go.RowKit

set_option maxHeartbeats 1000000 in
theorem l16VoteTells_calls (n last term own ownTerm bt bf f : Int) (an : Bool) (w : World) :
    Calls Try.prog 21 #[.int .i64 n, .int .i64 last, .int .i64 term, .int .i64 own, .int .i64 ownTerm, .agg #[.int .i64 bt, .int .i64 bf], .int .i64 f, .bool an] w fun e w' =>
      e = .returned (.bool true) ∧ Below w.heap.size w w' := by
  generalize hgt : grantT bt bf f term an = gt at *
  generalize hgf : grantF bt bf f term an = gf at *
  generalize hg : granted bt bf f term an = g at *
  generalize hen : enough n = en at *
  generalize has : asNew last term own ownTerm = as' at *
  have H := Lib.hid (And.intro hgt (And.intro hgf (And.intro hg (And.intro hen has))))
  clear hgt hgf hg hen has
  by_cases h : bt < term
  · have e1 : stepT bt term = term := by simp [stepT, h]
    have e2 : stepF bt bf term = -1 := by simp [stepF, h]
    have E := Lib.hid (And.intro e1 e2)
    clear e1 e2
    have b1 : (term == bt) = false := by simp; omega
    go_enter Try.func21, Try.ntmps21
    go_wp2_with fail
    refine (voteGrant_calls _ _ _ _ _ _).mono ?_
    rintro e w1 ⟨rfl, hb1⟩
    rw [H.out.1, H.out.2.1, H.out.2.2.1]
    obtain ⟨hc1, hf1⟩ := bcell hb1
    have s1 : w.heap.size < w1.heap.size := by have := hb1.size; simp at this; omega
    go_wp2_with fail
    refine (r16Grant_calls _ _ _ _ _ _).mono ?_
    rintro e w2 ⟨rfl, hb2⟩
    rw [H.out.1, H.out.2.1, H.out.2.2.1]
    obtain ⟨hc2, hf2⟩ := bcell hb2
    have s12 : w1.heap.size < w2.heap.size := by have := hb2.size; simp at this; omega
    have s2 : w.heap.size < w2.heap.size := by omega
    go_wp2_with fail
    refine (voteStep_calls _ _ _ _).mono ?_
    rintro e w3 ⟨rfl, hb3⟩
    rw [E.out.1, E.out.2]
    obtain ⟨hc3, hf3⟩ := bcell hb3
    have s23 : w2.heap.size < w3.heap.size := by have := hb3.size; simp at this; omega
    have s13 : w1.heap.size < w3.heap.size := by omega
    have s3 : w.heap.size < w3.heap.size := by omega
    go_wp2_with fail
    refine (voteEnough_calls _ _).mono ?_
    rintro e w4 ⟨rfl, rfl⟩
    rw [H.out.2.2.2.1]
    go_wp2_with fail
    refine (r16Enough_calls _ _).mono ?_
    rintro e w4 ⟨rfl, rfl⟩
    rw [H.out.2.2.2.1]
    go_wp2_with fail
    refine (voteAsNew_calls _ _ _ _ _).mono ?_
    rintro e w4 ⟨rfl, hb4⟩
    rw [H.out.2.2.2.2]
    go_wp2_with fail
    refine (r16AsNew_calls _ _ _ _ _).mono ?_
    rintro e w5 ⟨rfl, rfl⟩
    rw [H.out.2.2.2.2]
    go_wp2_with fail
    refine (l16awake_calls _).mono ?_
    rintro e w5 ⟨rfl, hb5⟩
    go_wp2
    go_ret
    refine ⟨rfl, ?_⟩
    have z4 := hb4.size
    have z5 := hb5.size
    simp at z4 z5
    exact (((((((((Below.refl _ _).alloc (Nat.le_refl _) _).trans (hb1.mono (by simp))).alloc (by omega) _).trans (hb2.mono (by simp; omega))).alloc (by omega) _).trans (hb3.mono (by simp; omega))).alloc (by omega) _).trans (hb4.mono (by simp; omega))).trans (hb5.mono (by omega))
  · have e1 : stepT bt term = bt := by simp [stepT, h]
    have e2 : stepF bt bf term = bf := by simp [stepF, h]
    have E := Lib.hid (And.intro e1 e2)
    clear e1 e2
    go_enter Try.func21, Try.ntmps21
    go_wp2_with fail
    refine (voteGrant_calls _ _ _ _ _ _).mono ?_
    rintro e w1 ⟨rfl, hb1⟩
    rw [H.out.1, H.out.2.1, H.out.2.2.1]
    obtain ⟨hc1, hf1⟩ := bcell hb1
    have s1 : w.heap.size < w1.heap.size := by have := hb1.size; simp at this; omega
    go_wp2_with fail
    refine (r16Grant_calls _ _ _ _ _ _).mono ?_
    rintro e w2 ⟨rfl, hb2⟩
    rw [H.out.1, H.out.2.1, H.out.2.2.1]
    obtain ⟨hc2, hf2⟩ := bcell hb2
    have s12 : w1.heap.size < w2.heap.size := by have := hb2.size; simp at this; omega
    have s2 : w.heap.size < w2.heap.size := by omega
    go_wp2_with fail
    refine (voteStep_calls _ _ _ _).mono ?_
    rintro e w3 ⟨rfl, hb3⟩
    rw [E.out.1, E.out.2]
    obtain ⟨hc3, hf3⟩ := bcell hb3
    have s23 : w2.heap.size < w3.heap.size := by have := hb3.size; simp at this; omega
    have s13 : w1.heap.size < w3.heap.size := by omega
    have s3 : w.heap.size < w3.heap.size := by omega
    go_wp2_with fail
    refine (voteEnough_calls _ _).mono ?_
    rintro e w4 ⟨rfl, rfl⟩
    rw [H.out.2.2.2.1]
    go_wp2_with fail
    refine (r16Enough_calls _ _).mono ?_
    rintro e w4 ⟨rfl, rfl⟩
    rw [H.out.2.2.2.1]
    go_wp2_with fail
    refine (voteAsNew_calls _ _ _ _ _).mono ?_
    rintro e w4 ⟨rfl, hb4⟩
    rw [H.out.2.2.2.2]
    go_wp2_with fail
    refine (r16AsNew_calls _ _ _ _ _).mono ?_
    rintro e w5 ⟨rfl, rfl⟩
    rw [H.out.2.2.2.2]
    go_wp2_with fail
    refine (l16awake_calls _).mono ?_
    rintro e w5 ⟨rfl, hb5⟩
    go_wp2
    go_ret
    refine ⟨rfl, ?_⟩
    have z4 := hb4.size
    have z5 := hb5.size
    simp at z4 z5
    exact (((((((((Below.refl _ _).alloc (Nat.le_refl _) _).trans (hb1.mono (by simp))).alloc (by omega) _).trans (hb2.mono (by simp; omega))).alloc (by omega) _).trans (hb3.mono (by simp; omega))).alloc (by omega) _).trans (hb4.mono (by simp; omega))).trans (hb5.mono (by omega))
end Go.Proofs.Ytogcnfhmcpkdcaa
