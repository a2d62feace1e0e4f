/-
  The document's example of layer 18 (awake) answers true.
-/
import Derived.Test.YtogcnfhmcpkdcaaGreatRaftM3
namespace Go.Proofs.YtogcnfhmcpkdcaaGreat
open Go.RowKit
set_option linter.unusedVariables false
set_option linter.unusedSimpArgs false
theorem others_one {R : PRaft} (f : PRaft → Int → PRaft) (hn : R.n = 1) (hm : R.me = 0) : R.others f = R := by
 unfold PRaft.others;rw [hn];show othersFrom f 1 0 R = R;unfold othersFrom;rw [if_pos hm.symm];rfl
theorem agreed_one (x : Int) : agreed [x] = x := by
 unfold agreed sortedI;rw [if_pos (by rfl)]
 simp
theorem look_one {R : PRaft} (hn : R.n = 1) (hm : R.me = 0) {m0 : Int} {ml : List Int} (hml : R.mat = m0 :: ml) : R.look = if R.commit < R.line.last ∧ (tmIs R.line R.line.last).1 = R.bt then { R with mat := R.line.last :: ml, commit := R.line.last } else { R with mat := R.line.last :: ml } := by
 unfold PRaft.look;rw [hn, hm, hml];simp only [Int.toNat_zero, List.set_cons_zero, Int.toNat_one, List.take_succ_cons, List.take_zero, agreed_one]
def oneR (i : Nat) : PRaft := { PRaft.new 0 1 with ticks := i }
def oneL : PRaft := ⟨0, 1, 1, 0, ⟨0, 0, [(1, [])]⟩, [], 2, 0, 1, 0, 0, [1, 0, 0, 0, 0, 0, 0], [1, 0, 0, 0, 0, 0, 0], [1, 1, 1, 1, 1, 1, 1], false, [ballotNote 1 0, itemNote 1 (1, [])], []⟩
def oneP : PRaft := ⟨0, 1, 1, 0, ⟨0, 0, [(1, []), (1, [5])]⟩, [], 2, 0, 2, 1, 0, [1, 0, 0, 0, 0, 0, 0], [2, 0, 0, 0, 0, 0, 0], [1, 1, 1, 1, 1, 1, 1], false, [ballotNote 1 0, itemNote 1 (1, []), itemNote 2 (1, [5])], []⟩
theorem one_tick (i : Nat) (hi : i < 19) : (oneR i).tick = oneR (i + 1) := by
 unfold PRaft.tick;rw [if_neg (by intro h; have h1 : (0 : Int) = 2 := h.1; omega), if_neg (by intro h; have h1 : (20 : Int) + 2 * 0 ≤ (i : Int) + 1 := h.2; omega)];unfold oneR
 simp
theorem one_stand : (oneR 19).tick = oneL := by
 unfold PRaft.tick;rw [if_neg (by intro h; have h1 : (0 : Int) = 2 := h.1; omega), if_pos (by constructor <;> decide)];unfold PRaft.stand;rw [if_neg (by decide), others_one _ rfl rfl];unfold PRaft.count;simp only;rw [if_pos (by decide)];unfold PRaft.goLead;rw [look_one (m0 := 0) (ml := [0, 0, 0, 0, 0, 0]) (by rfl) (by rfl) (by rfl)];rw [if_pos (by constructor <;> decide)];rw [others_one _ (by rfl) (by rfl)];rfl
theorem one_next : oneL.next = ({ oneL with applied := 1 }, some (1, (1, []))) := by rfl
theorem one_prop : ({ oneL with applied := 1 } : PRaft).propose [5] = (oneP, 2, 0) := by
 unfold PRaft.propose;rw [if_neg (by decide), if_neg (by decide), if_neg (by decide)];simp only;rw [if_neg (by decide)];rw [look_one (m0 := 1) (ml := [0, 0, 0, 0, 0, 0]) (by rfl) (by rfl) (by rfl)];rw [if_pos (by constructor <;> decide)];rw [others_one _ (by rfl) (by rfl)];rfl
def oneW (i : Nat) : PRaft := if i < 20 then oneR i else oneL
theorem oneW_step (i : Nat) (h : i < 20) : (oneW i).tick = oneW (i + 1) := by
 unfold oneW;rw [if_pos h];by_cases h9 : i < 19
 ·rw [if_pos (by omega)]; exact one_tick i h9
 ·have : i = 19 := by omega
  subst this;rw [if_neg (by omega)];exact one_stand
theorem one_good : (⟨0, 0, []⟩ : PLine).Good := ⟨by decide, by decide, by decide, by decide, by decide, by decide, by simp⟩
theorem one_goodL : oneL.line.Good := ⟨by decide, by decide, by decide, by decide, by decide, by decide, by intro it hi; simp [oneL] at hi; subst hi; rfl⟩
structure In18 (w : World) (p : Nat) (R : PRaft) (M : RMem) (W : World) : Prop where
 rf : RfAt W p R M
 bel : Below w.heap.size w W
 inn : ∀ k, M.own p k → w.heap.size ≤ k
theorem In18.touch {w W W' : World} {p : Nat} {R R' : PRaft} {M M' : RMem} (h : In18 w p R M W) (hr : RfAt W' p R' M') (ht : RTouch p M M' W W') : In18 w p R' M' W' :=
 ⟨hr, h.bel.trans (ht.below h.inn h.bel.size), ht.inn h.inn h.bel.size⟩
theorem In18.below {w W W' : World} {p : Nat} {R : PRaft} {M : RMem} (h : In18 w p R M W) (hb : Below W.heap.size W W') : In18 w p R M W' := ⟨h.rf.below hb, h.bel.trans (hb.mono h.bel.size), h.inn⟩
theorem zeros_bd : ∀ x ∈ zeros7, 0 ≤ x ∧ x ≤ (1099511627777 : Int) := by intro x hx; simp [zeros7] at hx; subst hx; decide
set_option maxRecDepth 100000 in
set_option maxHeartbeats 2000000 in
theorem l18awake (w : World) : Calls Tryz.prog 8 #[] w fun e w' => e = .returned (.bool true) ∧ Below w.heap.size w w' := by
 go_enter Tryz.func8, Tryz.ntmps8
 go_wp2_with fail;refine (raftNew_yes 0 1 (by decide) (by decide) (by decide) (by decide) w).mono ?_;rintro e w1 ⟨p, rfl, M1, hmade⟩;have HI1 := Hh (show In18 w p (PRaft.new 0 1) M1 w1 from ⟨hmade.1, hmade.2.1, hmade.2.2⟩);clear hmade;go_wp2_with fail;refine (raftNew_no 1 1 (by decide) w1).mono ?_;rintro e w2 ⟨rfl, rfl⟩;go_wp2_with fail;obtain ⟨wo, rfl⟩ : ∃ wo : World, wo = w1 := ⟨_, rfl⟩
 go_loopw [2] (fun iv wr => ∃ (i : Nat) (M : RMem), iv = .int .i64 i ∧ i ≤ 20 ∧ In18 w p (oneW i) M wr) (fun iv _ => 20 - (intOf iv).toNat)
 case atStart => exact ⟨0, M1, rfl, by omega, HI1.out⟩
 case round =>
  obtain ⟨i, M, rfl, hi, hin⟩ := hrel;have HI := Hh hin;clear hin;by_cases hlt : i < 20
  ·have ti : decide ((i : Int) < 20) = true := by simp; omega
   have hW : oneW i = oneR i := by unfold oneW; rw [if_pos hlt]
   have hst := oneW_step i hlt;rw [hW] at hst;have HST := Hh hst;have HIR := Hh (show In18 w p (oneR i) M wr by have h9 := HI.out; rw [hW] at h9; exact h9);clear hst hW;go_wp2_with fail;refine (raftRole HIR.out.rf).mono ?_;rintro e w3 ⟨rfl, rfl⟩;rw [show (oneR i).role = 0 from rfl];go_wp2_with fail;refine (raftLeader HIR.out.rf).mono ?_;rintro e w3 ⟨rfl, rfl⟩;rw [show (oneR i).lead = -1 from rfl];go_wp2_with fail;refine (raftTick p (oneR i) M (by show (1 : Int) ≤ 1; decide) (by show (1 : Int) ≤ 7; decide) (by show (0 : Int) ≤ 0; decide) (by show (0 : Int) < 1; decide) (by show (0 : Int) ≤ 0; decide) (by show (0 : Int) ≤ 1099511627776; decide) one_good zeros_bd (by show (0 : Int) ≤ (i : Int); omega) (by show (i : Int) ≤ 1000; omega) (by show 0 ≤ 999980000; decide) (by show 0 ≤ 999998000; decide) wr HIR.out.rf).mono ?_;rintro e w4 ⟨rfl, M', hr4, ht4⟩;rw [HST.out] at hr4;have HI4 := Hh (HIR.out.touch hr4 ht4);clear hr4 ht4;go_wp2;go_roundw
   case rel => exact ⟨i + 1, M', by go_num, hlt, HI4.out⟩
   case measure => simp [intOf]; omega
  ·have ti : decide ((i : Int) < 20) = false := by simp; omega
   have hie : i = 20 := by omega
   subst hie;have HIL := Hh (show In18 w p oneL M wr from HI.out);clear hlt;go_wp2_with fail;refine (raftNext p oneL M one_goodL (by decide) (by decide) (by decide) wr HIL.out.rf).mono ?_;rintro e w5 h5;unfold NextTo at h5;rw [one_next] at h5;obtain ⟨a5, c5, rfl, -, M5, hr5, ht5⟩ := h5;have HI5 := Hh (HIL.out.touch hr5 ht5);obtain ⟨V, hV⟩ : ∃ V, V = (w5.alloc (.cells #[.int .i64 1, .slice a5 0 c5] 40)).alloc (.cells #[.int .u8 5] 5) := ⟨_, rfl⟩
   have hbV : Below w5.heap.size w5 V := by rw [hV]; exact ((Below.refl _ _).alloc (Nat.le_refl _) _).alloc (by simp) _
   have HIV := Hh (HI5.out.below hbV);have HBX := Hh (show V.heap[w5.heap.size]? = some (.cells #[.int .i64 1, .slice a5 0 c5] 40 (0, 0)) by
    rw [hV];exact (((Below.refl _ _).alloc (Nat.le_refl (w5.alloc (.cells #[.int .i64 1, .slice a5 0 c5] 40)).heap.size) _).block _ (by simp)).trans (heap_alloc_new w5 _))
   have HBS := Hh (show BsAt V V.heap.size (some ⟨w5.heap.size + 1, 0, none⟩) 1 1 [5] by
    rw [hV];have h9 := slAt_one (w5.alloc (.cells #[.int .i64 1, .slice a5 0 c5] 40)) (.int .u8 5) 5;have h8 := bsAt_of_slAt (l := [5]) h9 (by omega);simpa using h8)
   have HV := Hh hV;clear hr5 ht5 hV hbV;go_wp2_with fail;rw [← HV.out];refine (raftPropose p { oneL with applied := 1 } M5 _ 1 [5] (by decide) (by decide) (by decide) (by decide) one_goodL (by intro x hx; simp [oneL] at hx; subst hx; decide) (by decide) (by decide) _ HBS.out HIV.out.rf).mono ?_;rintro e w6 ⟨rfl, M6, hr6, ht6⟩;rw [one_prop] at hr6 ⊢;have HI6 := Hh (HIV.out.touch hr6 ht6);have HNB := Hh (show w6.heap[w5.heap.size]? = some (.cells #[.int .i64 1, .slice a5 0 c5] 40 (0, 0)) from (ht6.block _ (by have := (Array.getElem?_eq_some_iff.1 HBX.out).1; omega) (fun h9 => HI5.out.rf.notNew (Nat.le_refl _) h9)).trans HBX.out);have b1 : w6.cell? ⟨w5.heap.size, 1, none⟩ = some (.slice a5 0 c5) := cell_of_row _ _ 1 _ _ _ HNB.out;clear hr6 ht6;go_wp2_with fail;refine (raftRole HI6.out.rf).mono ?_;rintro e w7 ⟨rfl, rfl⟩;rw [show oneP.role = 2 from rfl];go_wp2_with fail;refine (raftLeader HI6.out.rf).mono ?_;rintro e w7 ⟨rfl, rfl⟩;rw [show oneP.lead = 0 from rfl];go_wp2_with fail;refine (raftTerm HI6.out.rf).mono ?_;rintro e w7 ⟨rfl, rfl⟩;rw [show oneP.bt = 1 from rfl];go_wp2_with fail;refine (raftCommit HI6.out.rf).mono ?_;rintro e w7 ⟨rfl, rfl⟩;rw [show oneP.commit = 2 from rfl];go_wp2;go_ret;exact ⟨rfl, HI6.out.bel⟩
end Go.Proofs.YtogcnfhmcpkdcaaGreat
