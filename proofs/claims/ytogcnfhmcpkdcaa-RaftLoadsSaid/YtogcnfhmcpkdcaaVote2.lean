/-
  vote.Agreed: of 1 to 7 indexes the one that stands at its place when they are sorted; of others none. No condition.
-/
import Derived.Test.YtogcnfhmcpkdcaaVote1
import Derived.Test.YtogcnfhmcpkdcaaVoteLaw
namespace Go.Proofs.Ytogcnfhmcpkdcaa
open Go.RowKit Go.Sort

set_option maxHeartbeats 400000 in
theorem voteAgreed_calls (zs : List Int) (a : Option Addr) (c : Nat) (w : World) (h : SlAt w w.heap.size 1 a zs.length c (zs.map (Value.int .i64))) :
    Calls Try.prog 80 #[.slice a zs.length c] w fun e w' => e = .returned (.tuple #[.int .i64 (agreed zs), .bool (agreedOk zs)]) ∧ Below w.heap.size w w' := by
  have hm := h.hmax
  have hl := h.hle
  unfold maxLen at hm
  by_cases hok : 1 ≤ zs.length ∧ zs.length ≤ 7
  · obtain ⟨h1, h7⟩ := hok
    have e0 : agreedOk zs = true := by simp [agreedOk, h1, h7]
    have e1 : agreed zs = (sortedI zs).getD (zs.length - (zs.length / 2 + 1)) 0 := by simp [agreed, e0]
    rw [e0, e1]; clear e0 e1
    obtain ⟨b, o, rfl, hb, hc⟩ := h.hat (by simp; omega)
    have hcc : ∀ j, j < zs.length → w.cell? ⟨b, o + j, none⟩ = some (.int .i64 (zs.getD j 0)) := fun j hj => by
      have := hc j (by simpa using hj)
      rw [this]; simp [List.getElem?_map, List.getD, List.getElem?_eq_getElem hj]
    have HCC := Lib.hid hcc
    clear hcc hc h
    have he : enough (zs.length : Int) = (zs.length : Int) / 2 + 1 := by unfold enough; rw [if_neg (by omega)]
    have HE := Lib.hid he
    clear he
    go_enter Try.func80, Try.ntmps80
    go_wp2_with fail
    refine (voteEnough_calls _ _).mono ?_
    rintro e w1 ⟨rfl, rfl⟩
    rw [HE.out]
    have b1 : (((zs.length : Int) / 2 + 1) == 0) = false := by simp; omega
    go_wp2_with fail
    refine (Try.slices_Clone_int b o zs.length c zs _ (Nat.le_refl _) (by omega) HCC.out).mono ?_
    rintro e w1 ⟨v', rfl, hown, hnn, hbel⟩
    rw [List.take_of_length_le (Nat.le_refl _)] at hown
    rcases hown.2 with ⟨hx, _⟩ | ⟨g, cap, cur, rfl, hbg, hg, hn, hmx, hs, ht⟩
    · exact absurd hx hnn
    have hH : Holds (Value.int .i64) w1 g 0 zs.toArray := holds_of_blockI hg (by simpa using ht)
    have hg1 : g < w1.heap.size := (Array.getElem?_eq_some_iff.1 hg).1
    go_wp2_with fail
    refine (Try.slices_Sort_int g 0 cap zs w1 hH hg1 (by omega)).mono ?_
    rintro e w2 ⟨rfl, nd, os, hw2⟩
    have hgr : w1.grownBy w2 (some g) := by rw [hw2]; exact grownBy_sortedI _
    have hown2 : w2.ownsRow w.heap.size 3 1 (.slice (some ⟨g, 0, none⟩) zs.length cap) zs.length ((sortedI zs).map (Value.int .i64)) := by
      rw [hw2]; exact ownsRow_sortedI (sortedI_length zs) hbg hg hn hmx hs
    clear hw2 hH hg hs ht hown hnn
    have hcell := hown2.cellAt (zs.length - (zs.length / 2 + 1)) (by omega)
    have hget : ((sortedI zs).map (Value.int .i64))[zs.length - (zs.length / 2 + 1)]? = some (.int .i64 ((sortedI zs).getD (zs.length - (zs.length / 2 + 1)) 0)) := by
      have hlt : zs.length - (zs.length / 2 + 1) < (sortedI zs).length := by rw [sortedI_length]; omega
      simp [List.getElem?_map, List.getD, List.getElem?_eq_getElem hlt]
    rw [hget] at hcell
    clear hget hown2
    have hbel2 : Below w.heap.size w w2 := hbel.trans (below_grown hgr hbg hbel.size)
    clear hbel hgr
    have HB := Lib.hid hbel2
    clear hbel2
    go_wp2
    go_ret2
    exact ⟨rfl, HB.out⟩
  · have e0 : agreedOk zs = false := by simp [agreedOk]; omega
    have e1 : agreed zs = 0 := by simp [agreed, e0]
    rw [e0, e1]; clear e0 e1 h
    have he : enough (zs.length : Int) = 0 := by unfold enough; rw [if_pos (by omega)]
    have HE := Lib.hid he
    clear he
    go_enter Try.func80, Try.ntmps80
    go_wp2_with fail
    refine (voteEnough_calls _ _).mono ?_
    rintro e w1 ⟨rfl, rfl⟩
    rw [HE.out]
    go_wp2
    go_ret2
    exact ⟨rfl, Below.refl _ _⟩

/-- the example of the document -/
theorem l16awake_calls (w : World) : Calls Try.prog 79 #[] w fun e w' => e = .returned (.bool true) ∧ Below w.heap.size w w' := by
  have ha : agreed [4, 9, 7] = 7 := by
    have h := bestOf_agreed [4, 9, 7] (by decide) (by decide)
    have h2 : bestOf [4, 9, 7] [4, 9, 7] = (7, true) := by decide
    rw [h2] at h; exact ((Prod.mk.injEq _ _ _ _).mp h).1.symm
  have hk : agreedOk [4, 9, 7] = true := by decide
  have hg1 : grantT 2 (-1) 1 2 true = 2 := by decide
  have hg2 : grantF 2 (-1) 1 2 true = 1 := by decide
  have hg3 : granted 2 (-1) 1 2 true = true := by decide
  have he : enough 5 = 3 := by decide
  have hr : rightBallot 2 1 = true := by decide
  have hn : asNew 1 1 1 1 = true := by decide
  have H := Lib.hid (And.intro ha (And.intro hk (And.intro hg1 (And.intro hg2 (And.intro hg3 (And.intro he (And.intro hr hn)))))))
  clear ha hk hg1 hg2 hg3 he hr hn
  go_enter Try.func79, Try.ntmps79
  go_wp2_with fail
  refine (voteAgreed_calls [4, 9, 7] _ 3 _ ?_).mono ?_
  · refine ⟨rfl, by decide, by decide, fun e => by simp at e, fun _ => ⟨w.heap.size, 0, rfl, by simp, ?_⟩⟩
    intro i hi
    rw [Nat.zero_add, World.cell?_alloc_new]
    simp
  rintro e w1 ⟨rfl, hb1⟩
  rw [H.out.1, H.out.2.1]
  go_wp2_with fail
  refine (voteGrant_calls _ _ _ _ _ _).mono ?_
  rintro e w2 ⟨rfl, hb2⟩
  rw [H.out.2.2.1, H.out.2.2.2.1, H.out.2.2.2.2.1]
  go_wp2_with fail
  refine (voteEnough_calls _ _).mono ?_
  rintro e w3 ⟨rfl, rfl⟩
  rw [H.out.2.2.2.2.2.1]
  go_wp2_with fail
  refine (voteRight_calls _ _ _).mono ?_
  rintro e w4 ⟨rfl, hb4⟩
  rw [H.out.2.2.2.2.2.2.1]
  go_wp2_with fail
  refine (voteAsNew_calls _ _ _ _ _).mono ?_
  rintro e w5 ⟨rfl, hb5⟩
  rw [H.out.2.2.2.2.2.2.2]
  go_wp2
  go_ret
  refine ⟨rfl, ?_⟩
  have s1 := hb1.size
  have s2 := hb2.size
  have s4 := hb4.size
  simp at s1 s2 s4
  exact ((((((Below.refl _ _).alloc (Nat.le_refl _) _).trans (hb1.mono (by simp))).trans (hb2.mono (by omega))).alloc (by omega) _).trans (hb4.mono (by simp; omega))).trans (hb5.mono (by omega))

theorem l16VoteNew_calls (a at' b bt c ct : Int) (w : World) :
    Calls Try.prog 20 #[.int .i64 a, .int .i64 at', .int .i64 b, .int .i64 bt, .int .i64 c, .int .i64 ct] w fun e w' => e = .returned (.bool true) ∧ Below w.heap.size w w' := by
  have t1 : asNew a at' b bt = true ∨ asNew b bt a at' = true := by simp [asNew]; omega
  have t2 : asNew a at' b bt = true → asNew b bt a at' = true → a = b ∧ at' = bt := by simp [asNew]; omega
  have t3 : asNew a at' b bt = true → asNew b bt c ct = true → asNew a at' c ct = true := by simp [asNew]; omega
  generalize hx : asNew a at' b bt = x at *
  generalize hy : asNew b bt a at' = y at *
  generalize hz : asNew b bt c ct = z at *
  generalize hu : asNew a at' c ct = u at *
  have HX := Lib.hid hx
  have HY := Lib.hid hy
  have HZ := Lib.hid hz
  have HU := Lib.hid hu
  clear hx hy hz hu
  go_enter Try.func20, Try.ntmps20
  go_wp2_with fail
  refine (voteAsNew_calls _ _ _ _ _).mono ?_
  rintro e w1 ⟨rfl, hb1⟩
  rw [HX.out]
  go_wp2_with fail
  refine (voteAsNew_calls _ _ _ _ _).mono ?_
  rintro e w2 ⟨rfl, hb2⟩
  rw [HY.out]
  have s1 := hb1.size
  have s2 := hb2.size
  cases x
  · have hy : y = true := by simpa using t1
    subst hy
    clear t1 t2 t3
    go_wp2_with fail
    refine (l16awake_calls _).mono ?_
    rintro e w3 ⟨rfl, hb3⟩
    go_wp2
    go_ret
    exact ⟨rfl, (hb1.trans (hb2.mono s1)).trans (hb3.mono (by omega))⟩
  · clear t1
    cases y
    · clear t2
      go_wp2_with fail
      refine (voteAsNew_calls _ _ _ _ _).mono ?_
      rintro e w3 ⟨rfl, hb3⟩
      rw [HZ.out]
      have s3 := hb3.size
      cases z
      · clear t3
        go_wp2_with fail
        refine (l16awake_calls _).mono ?_
        rintro e w4 ⟨rfl, hb4⟩
        go_wp2
        go_ret
        exact ⟨rfl, ((hb1.trans (hb2.mono s1)).trans (hb3.mono (by omega))).trans (hb4.mono (by omega))⟩
      · obtain rfl : u = true := by simpa using t3
        clear t3
        go_wp2_with fail
        refine (voteAsNew_calls _ _ _ _ _).mono ?_
        rintro e w4 ⟨rfl, hb4⟩
        rw [HU.out]
        have s4 := hb4.size
        go_wp2_with fail
        refine (l16awake_calls _).mono ?_
        rintro e w5 ⟨rfl, hb5⟩
        go_wp2
        go_ret
        exact ⟨rfl, (((hb1.trans (hb2.mono s1)).trans (hb3.mono (by omega))).trans (hb4.mono (by omega))).trans (hb5.mono (by omega))⟩
    · obtain ⟨rfl, rfl⟩ := t2 rfl rfl
      clear t2
      go_wp2_with fail
      refine (voteAsNew_calls _ _ _ _ _).mono ?_
      rintro e w3 ⟨rfl, hb3⟩
      rw [HZ.out]
      have s3 := hb3.size
      cases z
      · clear t3
        go_wp2_with fail
        refine (l16awake_calls _).mono ?_
        rintro e w4 ⟨rfl, hb4⟩
        go_wp2
        go_ret
        exact ⟨rfl, ((hb1.trans (hb2.mono s1)).trans (hb3.mono (by omega))).trans (hb4.mono (by omega))⟩
      · obtain rfl : u = true := by simpa using t3
        clear t3
        go_wp2_with fail
        refine (voteAsNew_calls _ _ _ _ _).mono ?_
        rintro e w4 ⟨rfl, hb4⟩
        rw [HU.out]
        have s4 := hb4.size
        go_wp2_with fail
        refine (l16awake_calls _).mono ?_
        rintro e w5 ⟨rfl, hb5⟩
        go_wp2
        go_ret
        exact ⟨rfl, (((hb1.trans (hb2.mono s1)).trans (hb3.mono (by omega))).trans (hb4.mono (by omega))).trans (hb5.mono (by omega))⟩

end Go.Proofs.Ytogcnfhmcpkdcaa
