/-
  The reference's Agreed, by counting, is the index at its place; the law VoteAgreed. No condition.
-/
import Derived.Test.YtogcnfhmcpkdcaaVote2
namespace Go.Proofs.Ytogcnfhmcpkdcaa
open Go.RowKit

theorem cntGe_snoc (zs : List Int) (x y : Int) : cntGe (zs ++ [y]) x = cntGe zs x + (if x ≤ y then 1 else 0) := by
  rw [cntGe_append]
  unfold cntGe
  by_cases h : x ≤ y <;> simp [h]

theorem take_snocD (zs : List Int) (k : Nat) (h : k < zs.length) : zs.take (k + 1) = zs.take k ++ [zs.getD k 0] := by
  rw [List.take_succ_eq_append_getElem h]; simp [List.getD, List.getElem?_eq_getElem h]

/-- the cells of a slice of ints -/
theorem SlAt.ints {w : World} {B : Nat} {k : IntKind} {a : Option Addr} {c : Nat} {zs : List Int} (h : SlAt w B 1 a zs.length c (zs.map (Value.int k))) (h0 : 0 < zs.length) :
    ∃ b o, a = some ⟨b, o, none⟩ ∧ b < B ∧ ∀ i, i < zs.length → w.cell? ⟨b, o + i, none⟩ = some (.int k (zs.getD i 0)) := by
  obtain ⟨b, o, rfl, hb, hc⟩ := h.hat (by simpa using h0)
  exact ⟨b, o, rfl, hb, fun i hi => by rw [hc i (by simpa using hi)]; simp [List.getElem?_map, List.getD, List.getElem?_eq_getElem hi]⟩

set_option maxHeartbeats 1000000 in
theorem r16Agreed_calls (zs : List Int) (a : Option Addr) (c : Nat) (w : World) (h : SlAt w w.heap.size 1 a zs.length c (zs.map (Value.int .i64))) :
    Calls Try.prog 81 #[.slice a zs.length c] w fun e w' => e = .returned (.tuple #[.int .i64 (agreed zs), .bool (agreedOk zs)]) ∧ Below w.heap.size w w' := by
  by_cases hok : 1 ≤ zs.length ∧ zs.length ≤ 7
  · obtain ⟨h1, h7⟩ := hok
    have hag := bestOf_agreed zs h1 h7
    have e0 : agreedOk zs = true := by simp [agreedOk, h1, h7]
    rw [e0]; clear e0
    have HAG := Lib.hid hag
    clear hag
    obtain ⟨b, o, rfl, hb, hc⟩ := h.ints (by omega)
    clear h
    have HC := Lib.hid hc
    clear hc
    have he : enough (zs.length : Int) = (zs.length : Int) / 2 + 1 := by unfold enough; rw [if_neg (by omega)]
    have HE := Lib.hid he
    clear he
    go_enter Try.func81, Try.ntmps81
    go_wp2_with fail
    refine (r16Enough_calls _ _).mono ?_
    rintro e w1 ⟨rfl, rfl⟩
    rw [HE.out]
    have b1 : (((zs.length : Int) / 2 + 1) == 0) = false := by simp; omega
    go_wp2_with fail
    go_loopw [4, 5, 6] (fun best found i wr => ∃ i' : Nat, i' ≤ zs.length ∧ i = .int .i64 i' ∧ best = .int .i64 (bestOf zs (zs.take i')).1 ∧ found = .bool (bestOf zs (zs.take i')).2 ∧ Below w.heap.size w wr)
      (fun _ _ i _ => zs.length - (intOf i).toNat)
    case atStart => exact ⟨0, by omega, rfl, rfl, rfl, Below.refl _ _⟩
    case round =>
      obtain ⟨i', hi', rfl, rfl, rfl, hbel⟩ := hrel
      obtain ⟨wo, hwo⟩ : ∃ wo : World, wo = wr := ⟨_, rfl⟩
      subst hwo
      by_cases hlt : i' < zs.length
      · obtain ⟨x, hx⟩ : ∃ x, x = zs.getD i' 0 := ⟨_, rfl⟩
        have hcx : wo.cell? ⟨b, o + i', none⟩ = some (.int .i64 x) := by rw [hx]; exact (hbel.cell (p := ⟨b, o + i', none⟩) hb).trans (HC.out i' hlt)
        have HX := Lib.hid hx
        clear hx
        obtain ⟨acc, hacc⟩ : ∃ acc, acc = bestOf zs (zs.take i') := ⟨_, rfl⟩
        have HACC := Lib.hid hacc
        rw [← hacc]
        clear hacc
        obtain ⟨best, found⟩ := acc
        dsimp only
        go_wp2_with fail
        go_loopw [7, 8] (fun n k wr => ∃ k' : Nat, k' ≤ zs.length ∧ k = .int .i64 k' ∧ n = .int .i64 (cntGe (zs.take k') x : Nat) ∧ Below w.heap.size w wr)
          (fun _ k _ => zs.length - (intOf k).toNat)
        case atStart => exact ⟨0, by omega, rfl, rfl, hbel⟩
        case round =>
          obtain ⟨k', hk', rfl, rfl, hbel2⟩ := hrel
          have hcl := cntGe_le (zs.take k') x
          have hcl2 : (zs.take k').length ≤ 7 := by simp; omega
          by_cases hlt2 : k' < zs.length
          · obtain ⟨y, hy⟩ : ∃ y, y = zs.getD k' 0 := ⟨_, rfl⟩
            have hcy : wr.cell? ⟨b, o + k', none⟩ = some (.int .i64 y) := by rw [hy]; exact (hbel2.cell (p := ⟨b, o + k', none⟩) hb).trans (HC.out k' hlt2)
            have hcx2 : wr.cell? ⟨b, o + i', none⟩ = some (.int .i64 x) := by rw [HX.out]; exact (hbel2.cell (p := ⟨b, o + i', none⟩) hb).trans (HC.out i' hlt)
            have hsn : cntGe (zs.take (k' + 1)) x = cntGe (zs.take k') x + (if x ≤ y then 1 else 0) := by rw [take_snocD zs k' hlt2, cntGe_snoc, hy]
            have HSN := Lib.hid hsn
            have HY := Lib.hid hy
            clear hsn hy
            have hk0 : (0 : Int) ≤ (k' : Int) := by omega
            have hk1 : (k' : Int) < (zs.length : Int) := by omega
            have hi0 : (0 : Int) ≤ (i' : Int) := by omega
            have hi1 : (i' : Int) < (zs.length : Int) := by omega
            by_cases hxy : x ≤ y
            · go_wp2_with fail
              go_quiet (fail)
              go_wp2
              go_roundw
              case rel => exact ⟨k' + 1, by omega, by go_num, by rw [HSN.out, if_pos (by omega)]; go_num, below_drewN hbel2 _⟩
              case measure => simp [intOf]; omega
            · go_wp2_with fail
              go_quiet (fail)
              go_wp2
              go_roundw
              case rel => exact ⟨k' + 1, by omega, by go_num, by rw [HSN.out, if_neg (by omega)]; go_num, below_drewN hbel2 _⟩
              case measure => simp [intOf]; omega
          · have hk2 : zs.take k' = zs := List.take_of_length_le (by omega)
            rw [hk2]
            rw [hk2] at hcl
            clear hcl2 hk2
            have hcx2 : wr.cell? ⟨b, o + i', none⟩ = some (.int .i64 x) := by rw [HX.out]; exact (hbel2.cell (p := ⟨b, o + i', none⟩) hb).trans (HC.out i' hlt)
            have hi0 : (0 : Int) ≤ (i' : Int) := by omega
            have hi1 : (i' : Int) < (zs.length : Int) := by omega
            have hst : bestOf zs (zs.take (i' + 1)) = bestStep zs (best, found) x := by rw [take_snocD zs i' hlt, bestOf_snoc, ← HACC.out, HX.out]
            have HST := Lib.hid hst
            clear hst
            obtain ⟨cn, hcn⟩ : ∃ cn, cn = cntGe zs x := ⟨_, rfl⟩
            rw [← hcn]
            rw [← hcn] at hcl
            have HCN := Lib.hid hcn
            clear hcn
            by_cases hge : zs.length / 2 + 1 ≤ cn
            · have t1 : decide ((zs.length : Int) / 2 + 1 ≤ (cn : Int)) = true := by simp; omega
              cases found
              · have hres : bestStep zs (best, false) x = (x, true) := by unfold bestStep; rw [if_pos ⟨by rw [← HCN.out]; exact hge, .inl rfl⟩]
                rw [hres] at HST
                clear hres
                go_wp2_with fail
                refine (r16Enough_calls _ _).mono ?_
                rintro e w2 ⟨rfl, rfl⟩
                rw [HE.out]
                go_wp2
                go_roundw
                case rel => exact ⟨i' + 1, by omega, by go_num, by rw [HST.out], by rw [HST.out], hbel2⟩
                case measure => simp [intOf]; omega
              · by_cases hbx : best < x
                · have hres : bestStep zs (best, true) x = (x, true) := by unfold bestStep; rw [if_pos ⟨by rw [← HCN.out]; exact hge, .inr hbx⟩]
                  rw [hres] at HST
                  clear hres
                  have t2 : decide (best < x) = true := by simpa using hbx
                  go_wp2_with fail
                  refine (r16Enough_calls _ _).mono ?_
                  rintro e w2 ⟨rfl, rfl⟩
                  rw [HE.out]
                  go_wp2
                  go_roundw
                  case rel => exact ⟨i' + 1, by omega, by go_num, by rw [HST.out], by rw [HST.out], hbel2⟩
                  case measure => simp [intOf]; omega
                · have hres : bestStep zs (best, true) x = (best, true) := by unfold bestStep; rw [if_neg (by simp; omega)]
                  rw [hres] at HST
                  clear hres
                  have t2 : decide (best < x) = false := by simpa using hbx
                  go_wp2_with fail
                  refine (r16Enough_calls _ _).mono ?_
                  rintro e w2 ⟨rfl, rfl⟩
                  rw [HE.out]
                  go_wp2
                  go_roundw
                  case rel => exact ⟨i' + 1, by omega, by go_num, by rw [HST.out], by rw [HST.out], hbel2⟩
                  case measure => simp [intOf]; omega
            · have hres : bestStep zs (best, found) x = (best, found) := by unfold bestStep; rw [if_neg (by rw [← HCN.out]; simp; omega)]
              rw [hres] at HST
              clear hres
              have t1 : decide ((zs.length : Int) / 2 + 1 ≤ (cn : Int)) = false := by simp; omega
              go_wp2_with fail
              refine (r16Enough_calls _ _).mono ?_
              rintro e w2 ⟨rfl, rfl⟩
              rw [HE.out]
              go_wp2
              go_roundw
              case rel => exact ⟨i' + 1, by omega, by go_num, by rw [HST.out], by rw [HST.out], hbel2⟩
              case measure => simp [intOf]; omega
      · have hk2 : zs.take i' = zs := List.take_of_length_le (by omega)
        rw [hk2, HAG.out]
        clear hk2
        go_wp2
        go_ret2
        exact ⟨rfl, hbel⟩
  · have e0 : agreedOk zs = false := by simp [agreedOk]; omega
    have e1 : agreed zs = 0 := by simp [agreed, e0]
    have hm := h.hmax
    have hl := h.hle
    unfold maxLen at hm
    rw [e0, e1]; clear e0 e1 h
    have he : enough (zs.length : Int) = 0 := by unfold enough; rw [if_pos (by omega)]
    have HE := Lib.hid he
    clear he
    go_enter Try.func81, Try.ntmps81
    go_wp2_with fail
    refine (r16Enough_calls _ _).mono ?_
    rintro e w1 ⟨rfl, rfl⟩
    rw [HE.out]
    go_wp2
    go_ret2
    exact ⟨rfl, Below.refl _ _⟩

set_option maxHeartbeats 400000 in
theorem l16VoteAgreed_calls (zs : List Int) (a : Option Addr) (c : Nat) (w : World) (h : SlAt w w.heap.size 1 a zs.length c (zs.map (Value.int .i64))) :
    Calls Try.prog 18 #[.slice a zs.length c] w fun e w' => e = .returned (.bool true) ∧ Below w.heap.size w w' := by
  have hm := h.hmax
  have hl := h.hle
  unfold maxLen at hm
  have HS := Lib.hid h
  clear h
  by_cases h50 : 50 < zs.length
  · go_enter Try.func18, Try.ntmps18
    go_wp2_with fail
    refine (l16awake_calls _).mono ?_
    rintro e w1 ⟨rfl, hb1⟩
    go_wp2
    go_ret
    exact ⟨rfl, hb1⟩
  · go_enter Try.func18, Try.ntmps18
    go_wp2_with fail
    refine (voteAgreed_calls zs a c _ HS.out).mono ?_
    rintro e w1 ⟨rfl, hb1⟩
    go_wp2_with fail
    refine (r16Agreed_calls zs a c _ ((HS.out.below hb1 (Nat.le_refl _)).mono hb1.size)).mono ?_
    rintro e w2 ⟨rfl, hb2⟩
    generalize agreed zs = x at *
    generalize agreedOk zs = y at *
    go_wp2_with fail
    refine (l16awake_calls _).mono ?_
    rintro e w3 ⟨rfl, hb3⟩
    go_wp2
    go_ret
    have s1 := hb1.size
    have s2 := hb2.size
    exact ⟨rfl, (hb1.trans (hb2.mono s1)).trans (hb3.mono (by omega))⟩

end Go.Proofs.Ytogcnfhmcpkdcaa
