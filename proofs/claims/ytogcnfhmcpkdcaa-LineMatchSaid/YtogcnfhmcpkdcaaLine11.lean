/-
  The statement LineMatch, its walk.
-/
import Derived.Test.YtogcnfhmcpkdcaaLine10
namespace Go.Proofs.Ytogcnfhmcpkdcaa
open Go.RowKit
set_option linter.unusedVariables false
set_option linter.unusedSimpArgs false

/-- the row of items, while it is filled -/
structure AllAt (w wr : World) (i : Nat) (t : Int) (a : Option Addr) (c : Nat) (ms : List MItem) : Prop where
  ln : ms.length = i
  t1 : 1 ≤ t
  t2 : t ≤ 1 + i
  own : ItemsOwn wr w.heap.size a c ms
  r : ∀ it ∈ ms.map MItem.it, rightI it = true
  bel : Below w.heap.size w wr

theorem own_oneB (w : World) (B : Nat) (hB : B ≤ w.heap.size) (x : UInt8) : (w.alloc (.cells #[.int .u8 (x.toNat : Int)] 5)).ownsRow B 5 1 (.slice (some ⟨w.heap.size, 0, none⟩) 1 1) 1 ([x].map bv) :=
  ⟨by simp, .inr ⟨w.heap.size, 1, #[.int .u8 (x.toNat : Int)], rfl, hB, heap_alloc_new w _, Nat.le_refl _, by unfold maxLen; omega, by simp, by simp [bv]⟩⟩

theorem fil_tmIs {A : List PItem} {k i : Nat} (hk : k ≤ A.length) (hA : A.length ≤ 4096) (hr : ∀ it ∈ A, rightI it = true) (h0 : 0 < i) : tmIs (fil A k) i = if i ≤ k then ((A.getD (i - 1) (0, [])).1, true) else (0, false) := by
  have hg := fil_good hk hA hr
  have htg := hg.tm_ge (i : Int)
  rw [fil_last hk] at htg
  unfold tmIs
  by_cases h1 : i ≤ k
  · rw [if_pos (by rw [htg]; exact ⟨by show (0 : Int) ≤ i; omega, by omega⟩), if_pos h1, fil_tm hk h1, if_neg (by omega)]
  · rw [if_neg (by rw [htg]; omega), if_neg h1]

set_option maxRecDepth 100000 in
set_option maxHeartbeats 1000000 in
theorem lineMatch_calls (sl al bl : List UInt8) (sa aa ba : Option Addr) (sc ac bc : Nat) (w : World) (hs : sl.length ≤ 20 → BsAt w w.heap.size sa sl.length sc sl) (ha : al.length ≤ 30 → BsAt w w.heap.size aa al.length ac al) (hb : bl.length ≤ 30 → BsAt w w.heap.size ba bl.length bc bl) :
    Calls Try.prog 9 #[.slice sa sl.length sc, .slice aa al.length ac, .slice ba bl.length bc] w fun e w' => e = .returned (.bool true) ∧ Below w.heap.size w w' := by
  obtain ⟨i0, hi, hz0, hz1, hz2⟩ := info_parts infoItem3
  have HS0 := Lib.hid hs
  have HA0 := Lib.hid ha
  have HB0 := Lib.hid hb
  clear hs ha hb
  by_cases g1 : 20 < sl.length
  · have t1 : decide ((20 : Int) < (sl.length : Int)) = true := by simp; omega
    have t1' : decide (20 < sl.length) = true := by simpa using g1
    clear g1
    go_enter Try.func9, Try.ntmps9
    go_wp2_with fail
    refine (l17awake _).mono ?_
    rintro e w1 ⟨rfl, hb1⟩
    have HB1 := Lib.hid hb1
    clear hb1
    go_wp2
    go_ret
    exact ⟨rfl, HB1.out⟩
  have t1 : decide ((20 : Int) < (sl.length : Int)) = false := by simp; omega
  have t1' : decide (20 < sl.length) = false := by simpa using g1
  by_cases g2 : 30 < al.length
  · have t2 : decide ((30 : Int) < (al.length : Int)) = true := by simp; omega
    have t2' : decide (30 < al.length) = true := by simpa using g2
    clear g1 g2
    go_enter Try.func9, Try.ntmps9
    go_wp2_with fail
    refine (l17awake _).mono ?_
    rintro e w1 ⟨rfl, hb1⟩
    have HB1 := Lib.hid hb1
    clear hb1
    go_wp2
    go_ret
    exact ⟨rfl, HB1.out⟩
  have t2 : decide ((30 : Int) < (al.length : Int)) = false := by simp; omega
  have t2' : decide (30 < al.length) = false := by simpa using g2
  by_cases g3 : 30 < bl.length
  · have t3 : decide ((30 : Int) < (bl.length : Int)) = true := by simp; omega
    have t3' : decide (30 < bl.length) = true := by simpa using g3
    clear g1 g2 g3
    go_enter Try.func9, Try.ntmps9
    go_wp2_with fail
    refine (l17awake _).mono ?_
    rintro e w1 ⟨rfl, hb1⟩
    have HB1 := Lib.hid hb1
    clear hb1
    go_wp2
    go_ret
    exact ⟨rfl, HB1.out⟩
  have t3 : decide ((30 : Int) < (bl.length : Int)) = false := by simp; omega
  have t3' : decide (30 < bl.length) = false := by simpa using g3
  have hsl : sl.length ≤ 20 := by omega
  have HS := Lib.hid (HS0.out hsl)
  have HA := Lib.hid (HA0.out (by omega))
  have HB := Lib.hid (HB0.out (by omega))
  clear HS0 HA0 HB0
  have HI0 := Lib.hid (show AllAt w w 0 1 none 0 [] from ⟨rfl, by omega, by omega, own_nil w, by simp, Below.refl _ _⟩)
  clear g1
  go_enter Try.func9, Try.ntmps9
  go_wp2_with fail
  go_loopw [7, 8, 9] (fun av tv iv wr => ∃ (i : Nat) (t : Int) (a : Option Addr) (c : Nat) (ms : List MItem), av = .slice a i c ∧ tv = .int .i64 t ∧ iv = .int .i64 i ∧ i ≤ sl.length ∧ AllAt w wr i t a c ms) (fun _ _ iv _ => sl.length - (intOf iv).toNat)
  case atStart => exact ⟨0, 1, none, 0, [], rfl, rfl, rfl, by omega, HI0.out⟩
  case round =>
    obtain ⟨i, t, a, c, ms, rfl, rfl, rfl, hile, hI⟩ := hrel
    have HI := Lib.hid hI
    have hsz := hI.bel.size
    have ht1 := hI.t1
    have ht2 := hI.t2
    have hml := hI.ln
    clear hI
    by_cases hlt : i < sl.length
    · obtain ⟨b, o, rfl, hbb, hc⟩ := HS.out.hat (by omega)
      obtain ⟨y, hy⟩ : ∃ y : Nat, (sl.getD i 0).toNat = y := ⟨_, rfl⟩
      have hy256 : y < 256 := by rw [← hy]; exact UInt8.toNat_lt _
      have hcx : wr.cell? ⟨b, o + i, none⟩ = some (.int .u8 (y : Int)) := by rw [← hy]; exact (HI.out.bel.cell (p := ⟨b, o + i, none⟩) hbb).trans (hc i hlt)
      obtain ⟨x, hx⟩ : ∃ x : UInt8, (x.toNat : Int) = (i : Int) := ⟨UInt8.ofNat i, by simp; omega⟩
      have HX := Lib.hid hx
      obtain ⟨u, hu⟩ : ∃ u : Int, (y : Int) % 2 = u := ⟨_, rfl⟩
      have hu01 : 0 ≤ u ∧ u ≤ 1 := by omega
      have hi0 : (0 : Int) ≤ (i : Int) := by omega
      have hi1 : (i : Int) < (sl.length : Int) := by omega
      have hm256 : (i : Int) % 256 = (i : Int) := by omega
      have ht0 : t + u ≤ 100 := by omega
      have ht00 : 0 ≤ t + u := by omega
      have hmi : (ms.map MItem.it).length = i := by simpa using hml
      have hoj := HI.out.own.own
      rw [hml] at hoj
      have HOJ := Lib.hid hoj
      clear hc hy hx hoj
      obtain ⟨Y, hY⟩ : ∃ Y, Y = wr.alloc (.cells #[.int .u8 (i : Int)] 5) := ⟨_, rfl⟩
      have hbY : Below wr.heap.size wr Y := by rw [hY]; exact (Below.refl _ _).alloc (Nat.le_refl _) _
      have hsY : Y.heap.size = wr.heap.size + 1 := by rw [hY]; simp
      have HY := Lib.hid hY
      have HOY := Lib.hid (HI.out.own.below hbY)
      have hMY : OwnBs 5 Y ⟨t + u, some ⟨wr.heap.size, 0, none⟩, 1, 1, [x]⟩ := by
        rw [HY.out, ← HX.out]
        exact OwnBs.of_own (own_oneB wr wr.heap.size (Nat.le_refl _) x) (by omega)
      have HMY := Lib.hid hMY
      have hbI : Below Y.heap.size Y (Y.alloc (.cells #[.int .i64 (t + u), .slice (some ⟨wr.heap.size, 0, none⟩) 1 1] 45)) := (Below.refl _ _).alloc (Nat.le_refl _) _
      have HBI := Lib.hid hbI
      have HBY := Lib.hid hbY
      have hsl2 := slAt_item Y #[.int .i64 (t + u), .slice (some ⟨wr.heap.size, 0, none⟩) 1 1] 45 2 rfl
      have hoj2 := HOY.out.own
      rw [hml] at hoj2
      rw [hsY] at hsl2
      have HSL2 := Lib.hid hsl2
      have HOJ2 := Lib.hid hoj2
      clear hY hbY hMY hbI hsl2 hoj2
      go_wp2_with (at_builtin; go_must (rw [← HY.out]; refine wpList_append_sl _ rfl (.tmp 45) (.tmp 51) 49 rfl w.heap.size 45 i0 (.agg #[.int .i64 0, .slice none 0 0]) 2 32 Try.underlying49 hi hz0 hz1 hz2 rfl (by decide) (.slice a i c) i _ rfl (HOJ2.out.alloc _) (wr.heap.size + 1 + 1) (some ⟨wr.heap.size + 1, 0, none⟩) 1 1 [.int .i64 (t + u), .slice (some ⟨wr.heap.size, 0, none⟩) 1 1] rfl HSL2.out (by intro u hu; simp at hu; rcases hu with rfl | rfl <;> rfl) (by unfold maxLen; omega) (by omega) (by simp; omega) ?_); intro a6 c6 w6 hown6 hgrow6 hat6)
      have HFN := Lib.hid (show AllAt w w6 (i + 1) (t + u) a6 c6 (ms ++ [⟨t + u, some ⟨wr.heap.size, 0, none⟩, 1, 1, [x]⟩]) from by
        refine ⟨by simp; omega, by omega, by omega, ?_, ?_, ?_⟩
        · exact HOY.out.next HMY.out HBI.out (by rw [hml]; exact hown6) (by rw [hml]; exact hgrow6)
        · intro it hit
          rw [List.map_append, List.mem_append] at hit
          rcases hit with hit | hit
          · exact HI.out.r it hit
          · simp at hit
            subst hit
            exact (rightI_iff _).2 ⟨ht00, by show t + u ≤ _; omega, by simp⟩
        · exact ((HI.out.bel.trans (HBY.out.mono hsz)).trans (HBI.out.mono (by omega))).grown hgrow6 (by simp; omega) (fun k hk => (own_lt HOJ2.out hk).1))
      clear hown6 hgrow6 hat6 hcx
      go_wp2
      go_roundw
      case rel => exact ⟨i + 1, t + u, a6, c6, _, rfl, rfl, by go_num, by omega, HFN.out⟩
      case measure => simp [intOf]; omega
    · have hin : i = sl.length := by omega
      have hi20 : i ≤ 20 := by omega
      obtain ⟨A, hA⟩ : ∃ A, A = ms.map MItem.it := ⟨_, rfl⟩
      have hAl : A.length = i := by rw [hA]; simpa using hml
      have HAR := Lib.hid (show ∀ it ∈ A, rightI it = true by rw [hA]; exact HI.out.r)
      have hat := HI.out.own.at
      rw [hml] at hat
      have HAT := Lib.hid hat
      have hblk : ∀ ad, a = some ad → ad.block < wr.heap.size := fun ad e => (own_lt HI.out.own.own (g := ad.block) (by rw [e]; rfl)).2
      have HBLK := Lib.hid hblk
      have hf1 := l17filled ms a c (by omega) HI.out.r al aa ac wr (by rw [hml]; exact hat) ((HA.out.below HI.out.bel (Nat.le_refl _)).mono hsz) hblk
      rw [hml, ← hA] at hf1
      have HF1 := Lib.hid hf1
      have HAA := Lib.hid hA
      have HAL := Lib.hid hAl
      have HBEL := Lib.hid HI.out.bel
      have hic : i ≤ c := hat.sl.hle
      obtain ⟨wo, rfl⟩ : ∃ wo : World, wo = wr := ⟨_, rfl⟩
      clear hf1 hat hblk hA hAl ht1 ht2 HI hin
      go_wp2_with fail
      refine HF1.out.mono ?_
      rintro e W2 ⟨k1, la1, lc1, ms1, hk1, rfl, hl1, hb1⟩
      have hs2 := hb1.size
      have hpl1 := hl1.lt
      have HL1 := Lib.hid hl1
      have HB1 := Lib.hid hb1
      have hf2 := l17filled ms a c (by omega) (by rw [← HAA.out]; exact HAR.out) bl ba bc W2 (by rw [hml]; exact (HAT.out.below hb1 (Nat.le_refl _)).mono hs2) ((HB.out.below (HBEL.out.trans (hb1.mono hsz)) (Nat.le_refl _)).mono (by omega)) (fun ad e => by have h9 := HBLK.out ad e; omega)
      rw [hml, ← HAA.out] at hf2
      have HF2 := Lib.hid hf2
      clear hl1 hb1 hf2
      go_wp2_with fail
      refine HF2.out.mono ?_
      rintro e W3 ⟨k2, la2, lc2, ms2, hk2, rfl, hl2, hb2⟩
      have hs3 := hb2.size
      have HL1' := Lib.hid (HL1.out.below hb2)
      have HL2 := Lib.hid hl2
      have HAT3 := Lib.hid (((HAT.out.below HB1.out (Nat.le_refl _)).mono hs2).below hb2 (Nat.le_refl _))
      have HB3 := Lib.hid (HBEL.out.trans ((HB1.out.mono hsz).trans (hb2.mono (by omega))))
      have hk1A : k1 ≤ A.length := by rw [HAL.out]; omega
      have hk2A : k2 ≤ A.length := by rw [HAL.out]; omega
      have HG1 := Lib.hid (fil_good hk1A (by rw [HAL.out]; omega) HAR.out)
      have HG2 := Lib.hid (fil_good hk2A (by rw [HAL.out]; omega) HAR.out)
      have HT1 := Lib.hid (fun i9 (h9 : 0 < i9) => fil_tmIs (i := i9) hk1A (by rw [HAL.out]; omega) HAR.out h9)
      have HT2 := Lib.hid (fun i9 (h9 : 0 < i9) => fil_tmIs (i := i9) hk2A (by rw [HAL.out]; omega) HAR.out h9)
      have HFR1 := Lib.hid (fun i9 (h8 : 0 < i9) (h9 : i9 ≤ k1) => fil_from (i := i9) hk1A h8 h9)
      have HFR2 := Lib.hid (fun i9 (h8 : 0 < i9) (h9 : i9 ≤ k2) => fil_from (i := i9) hk2A h8 h9)
      clear hl2 hb2 hk1A hk2A hlt
      go_wp2_with fail
      go_loopw [12] (fun iv wr => ∃ (j m : Nat), iv = .int .i64 j ∧ j ≤ i ∧ wr = W3.drewN m) (fun iv _ => (intOf iv).toNat)
      case atStart => exact ⟨i, 0, rfl, by omega, rfl⟩
      case round =>
        obtain ⟨j, m, rfl, hji, rfl⟩ := hrel
        by_cases hj0 : 0 < j
        · have tj : decide ((0 : Int) < (j : Int)) = true := by simp; omega
          have tj' : decide (0 < j) = true := by simp; omega
          obtain ⟨T1, hT1⟩ : ∃ T1, tmIs (fil A k1) j = T1 := ⟨_, rfl⟩
          obtain ⟨T2, hT2⟩ : ∃ T2, tmIs (fil A k2) j = T2 := ⟨_, rfl⟩
          have HT1j := Lib.hid hT1
          have HT2j := Lib.hid hT2
          have e1 := HT1.out j hj0
          have e2 := HT2.out j hj0
          rw [hT1] at e1
          rw [hT2] at e2
          clear hT1 hT2
          obtain ⟨tp, htp⟩ : ∃ tp, (A.getD (j - 1) (0, [])).1 = tp := ⟨_, rfl⟩
          rw [htp] at e1 e2
          clear htp
          by_cases hk1j : j ≤ k1
          · rw [if_pos hk1j] at e1
            subst e1
            by_cases hk2j : j ≤ k2
            · rw [if_pos hk2j] at e2
              subst e2
              have e3 : decide (tp = tp) = true := by simp
              have hjc : j ≤ c := by omega
              go_wp2_with fail
              refine (lineTerm wo.heap.size wo.heap.size (fil A k1) HG1.out la1 lc1 ms1 j _ (HL1'.out.drewN m)).mono ?_
              rintro e w4 ⟨rfl, m4, rfl⟩
              rw [HT1j.out, World.drewN_drewN]
              go_wp2_with fail
              refine (lineTerm W2.heap.size W2.heap.size (fil A k2) HG2.out la2 lc2 ms2 j _ (HL2.out.drewN (m + m4))).mono ?_
              rintro e w5 ⟨rfl, m5, rfl⟩
              rw [HT2j.out, World.drewN_drewN]
              obtain ⟨V, hV⟩ : ∃ V, V = W3.drewN (m + m4 + m5) := ⟨_, rfl⟩
              rw [← hV]
              have hbV : Below W3.heap.size W3 V := by rw [hV]; exact below_drewN _ _
              have hsV : V.heap.size = W3.heap.size := by rw [hV]; rfl
              have HLV1 := Lib.hid (HL1'.out.below hbV)
              have HLV2 := Lib.hid (HL2.out.below hbV)
              have HATV := Lib.hid (show ItemsAt V V.heap.size a i c ms by rw [hsV]; exact (HAT3.out.mono hs3).below hbV (Nat.le_refl _))
              have HBV := Lib.hid (HB3.out.trans (hbV.mono (show w.heap.size ≤ W3.heap.size by omega)))
              have F1 := Lib.hid (HFR1.out j hj0 hk1j)
              have F2 := Lib.hid (HFR2.out j hj0 hk2j)
              have HTK := Lib.hid (show (ms.take j).map MItem.it = A.take j by rw [List.map_take, HAA.out])
              have HATJ := Lib.hid (show ItemsAt V V.heap.size a j c (ms.take j) from ⟨by
                have h9 := HATV.out.sl.upto (k := j) (m := c) (by omega) (by omega) (Nat.le_refl _)
                rw [cellsM_take] at h9
                exact h9, fun m9 hm9 => HATV.out.bs m9 (List.mem_of_mem_take hm9)⟩)
              have hwV : w.heap.size ≤ V.heap.size := by omega
              have hj20 : (j : Int) ≤ 100000 := by omega
              clear hV hbV hsV e3 HT1 HT2 HFR1 HFR2
              go_wp2_with fail
              refine wp_region_any (by kernel_rfl) ?_
              refine wpAny_of_held (S := fun w' => Below V.heap.size V w') _ _ _ _ ?_
              have hS0 : Below V.heap.size V V.drew := (Below.refl _ _).drew
              refine heldTake 0 92 rfl rfl (by kernel_rfl) (by kernel_rfl) (by kernel_rfl) (fun _ _ _ h => h) hS0 (.inl ⟨by rfl, by intro w' hS; (try dsimp only at hS); go_simp; (try rfl)⟩) ?_
              simp only [List.set_cons_zero, List.set_cons_succ]
              refine heldTake 1 93 rfl rfl (by kernel_rfl) (by kernel_rfl) (by kernel_rfl) (fun _ _ _ h => h) hS0 (.inl ⟨by rfl, by intro w' hS; (try dsimp only at hS); go_simp; (try rfl)⟩) ?_
              simp only [List.set_cons_zero, List.set_cons_succ]
              refine heldTake 3 95 rfl rfl (by kernel_rfl) (by kernel_rfl) (by kernel_rfl) (fun _ _ _ h => h) hS0 (.inl ⟨by rfl, by intro w' hS; (try dsimp only at hS); go_simp; (try rfl)⟩) ?_
              simp only [List.set_cons_zero, List.set_cons_succ]
              refine heldTake 4 96 rfl rfl (by kernel_rfl) (by kernel_rfl) (by kernel_rfl) (fun _ _ _ h => h) hS0 (.inl ⟨by rfl, by intro w' hS; (try dsimp only at hS); go_simp; (try rfl)⟩) ?_
              simp only [List.set_cons_zero, List.set_cons_succ]
              refine heldOne 2 (by kernel_rfl) rfl (by rfl) ?_
              go_simp
              refine (lineFrom wo.heap.size wo.heap.size (fil A k1) HG1.out la1 lc1 ms1 1 j hj20 _ (HLV1.out.below hS0)).mono ?_
              rintro e w6 ⟨a6, c6, ms6, rfl, ho6, hi6, hb6⟩
              rw [F1.out] at hi6
              have hb6' : Below V.heap.size V.drew w6 := hb6
              have hS6 := hS0.trans hb6'
              have hs6 := hS6.size
              have HO6 := Lib.hid ho6
              have HI6 := Lib.hid hi6
              have HB6 := Lib.hid hS6
              refine ⟨hS6, ?_⟩
              clear hS0 hb6 hb6' ho6 hi6 hS6
              refine heldOne 5 (by kernel_rfl) rfl (by rfl) ?_
              go_simp
              refine (lineFrom W2.heap.size W2.heap.size (fil A k2) HG2.out la2 lc2 ms2 1 j hj20 _ (HLV2.out.below HB6.out)).mono ?_
              rintro e w7 ⟨a7, c7, ms7, rfl, ho7, hi7, hb7⟩
              rw [F2.out] at hi7
              have hS7 := HB6.out.trans (hb7.mono hs6)
              have hs7 := hb7.size
              have HO6' := Lib.hid (HO6.out.below hb7)
              have HO7 := Lib.hid ho7
              have HI7 := Lib.hid hi7
              have HB7 := Lib.hid hS7
              refine ⟨hS7, ?_⟩
              have hl6 : ms6.length ≤ 1000000 := by
                have h9 := congrArg List.length HI6.out
                simp at h9
                omega
              clear hb7 ho7 hi7 hS7
              refine heldOne 6 (by kernel_rfl) rfl (by rfl) ?_
              go_simp
              refine (r17Same ms6 ms7 a6 a7 _ c6 _ c7 hl6 _ HO6'.out.at HO7.out.at).mono ?_
              rintro e w8 ⟨rfl, hb8⟩
              rw [show decide (ms6.map MItem.it = ms7.map MItem.it) = true from decide_eq_true (HI6.out.trans HI7.out.symm)]
              have hS8 := HB7.out.trans (hb8.mono (by omega))
              have hs8 := hb8.size
              refine ⟨hS8, ?_⟩
              clear hb8
              refine heldTake 7 99 rfl rfl (by kernel_rfl) (by kernel_rfl) (by kernel_rfl) (fun _ _ _ h => h) hS8 (.inl ⟨by rfl, by intro w' hS; (try dsimp only at hS); go_simp; (try rfl)⟩) ?_
              simp only [List.set_cons_zero, List.set_cons_succ]
              refine heldTake 8 100 rfl rfl (by kernel_rfl) (by kernel_rfl) (by kernel_rfl) (fun _ _ _ h => h) hS8 (.inl ⟨by rfl, by intro w' hS; (try dsimp only at hS); go_simp; (try rfl)⟩) ?_
              simp only [List.set_cons_zero, List.set_cons_succ]
              refine heldTake 9 101 rfl rfl (by kernel_rfl) (by kernel_rfl) (by kernel_rfl) (fun _ _ _ h => h) hS8 (.inl ⟨by rfl, by intro w' hS; (try dsimp only at hS); go_simp; (try rfl)⟩) ?_
              simp only [List.set_cons_zero, List.set_cons_succ]
              refine heldTake 11 103 rfl rfl (by kernel_rfl) (by kernel_rfl) (by kernel_rfl) (fun _ _ _ h => h) hS8 (.inl ⟨by rfl, by intro w' hS; (try dsimp only at hS); go_simp; (try rfl)⟩) ?_
              simp only [List.set_cons_zero, List.set_cons_succ]
              refine heldTake 12 104 rfl rfl (by kernel_rfl) (by kernel_rfl) (by kernel_rfl) (fun _ _ _ h => h) hS8 (.inl ⟨by rfl, by intro w' hS; (try dsimp only at hS); go_simp; (try rfl)⟩) ?_
              simp only [List.set_cons_zero, List.set_cons_succ]
              refine heldTake 13 105 rfl rfl (by kernel_rfl) (by kernel_rfl) (by kernel_rfl) (fun _ _ _ h => h) hS8 (.inl ⟨by rfl, by intro w' hS; (try dsimp only at hS); go_simp; (try rfl)⟩) ?_
              simp only [List.set_cons_zero, List.set_cons_succ]
              refine heldOne 10 (by kernel_rfl) rfl (by rfl) ?_
              go_simp
              refine (lineFrom wo.heap.size wo.heap.size (fil A k1) HG1.out la1 lc1 ms1 1 j hj20 _ (HLV1.out.below hS8)).mono ?_
              rintro e w9 ⟨a9, c9, ms9, rfl, ho9, hi9, hb9⟩
              rw [F1.out] at hi9
              have hS9 := hS8.trans (hb9.mono (by omega))
              have hs9 := hb9.size
              have HO9 := Lib.hid ho9
              have HI9 := Lib.hid hi9
              refine ⟨hS9, ?_⟩
              have hl9 : ms9.length ≤ 1000000 := by
                have h9 := congrArg List.length HI9.out
                simp at h9
                omega
              clear hb9 ho9 hi9 hS8
              refine heldOne 14 (by kernel_rfl) rfl (by rfl) ?_
              go_simp
              refine (r17Same ms9 (ms.take j) a9 a _ c9 _ c hl9 _ HO9.out.at ((HATJ.out.below hS9 (Nat.le_refl _)).mono (by omega))).mono ?_
              rintro e w10 ⟨rfl, hb10⟩
              rw [show decide (ms9.map MItem.it = (ms.take j).map MItem.it) = true from decide_eq_true (HI9.out.trans HTK.out.symm)]
              have hS10 := hS9.trans (hb10.mono (by omega))
              have hs10 := hb10.size
              refine ⟨hS10, ?_⟩
              clear hb10 hS9
              refine heldTake 15 107 rfl rfl (by kernel_rfl) (by kernel_rfl) (by kernel_rfl) (fun _ _ _ h => h) hS10 (.inl ⟨by rfl, by intro w' hS; (try dsimp only at hS); go_simp; (try rfl)⟩) ?_
              simp only [List.set_cons_zero, List.set_cons_succ]
              refine heldTake 16 108 rfl rfl (by kernel_rfl) (by kernel_rfl) (by kernel_rfl) (fun _ _ _ h => h) hS10 (.inl ⟨by rfl, by intro w' hS; (try dsimp only at hS); go_simp; (try rfl)⟩) ?_
              simp only [List.set_cons_zero, List.set_cons_succ]
              refine heldOne 17 (by kernel_rfl) rfl (by rfl) ?_
              go_simp
              refine (l17awake _).mono ?_
              rintro e w11 ⟨rfl, hb11⟩
              have hS11 := hS10.trans (hb11.mono (by omega))
              refine ⟨hS11, ?_⟩
              clear hb11 hS10
              refine heldTake 18 110 rfl rfl (by kernel_rfl) (by kernel_rfl) (by kernel_rfl) (fun _ _ _ h => h) hS11 (.inl ⟨by rfl, by intro w' hS; (try dsimp only at hS); go_simp; (try rfl)⟩) ?_
              simp only [List.set_cons_zero, List.set_cons_succ]
              refine heldTake 19 6 rfl rfl (by kernel_rfl) (by kernel_rfl) (by kernel_rfl) (fun _ _ _ h => h) hS11 (.inl ⟨by rfl, by intro w' hS; (try dsimp only at hS); go_simp; (try rfl)⟩) ?_
              simp only [List.set_cons_zero, List.set_cons_succ]
              refine wpAnyH_done (by kernel_rfl) ?_ _
              have HBE := Lib.hid (HBV.out.trans (hS11.mono hwV))
              clear hS11
              go_wp2
              go_ret
              exact ⟨rfl, HBE.out⟩
            · rw [if_neg hk2j] at e2
              subst e2
              go_wp2_with fail
              refine (lineTerm wo.heap.size wo.heap.size (fil A k1) HG1.out la1 lc1 ms1 j _ (HL1'.out.drewN m)).mono ?_
              rintro e w4 ⟨rfl, m4, rfl⟩
              rw [HT1j.out, World.drewN_drewN]
              go_wp2_with fail
              refine (lineTerm W2.heap.size W2.heap.size (fil A k2) HG2.out la2 lc2 ms2 j _ (HL2.out.drewN (m + m4))).mono ?_
              rintro e w5 ⟨rfl, m5, rfl⟩
              rw [HT2j.out, World.drewN_drewN]
              obtain ⟨j1, rfl⟩ : ∃ j1, j = j1 + 1 := ⟨j - 1, by omega⟩
              go_wp2
              go_roundw
              case rel => exact ⟨j1, m + m4 + m5, by go_num, by omega, rfl⟩
              case measure => simp [intOf]
          · rw [if_neg hk1j] at e1
            subst e1
            obtain ⟨T2a, T2b⟩ := T2
            go_wp2_with fail
            refine (lineTerm wo.heap.size wo.heap.size (fil A k1) HG1.out la1 lc1 ms1 j _ (HL1'.out.drewN m)).mono ?_
            rintro e w4 ⟨rfl, m4, rfl⟩
            rw [HT1j.out, World.drewN_drewN]
            go_wp2_with fail
            refine (lineTerm W2.heap.size W2.heap.size (fil A k2) HG2.out la2 lc2 ms2 j _ (HL2.out.drewN (m + m4))).mono ?_
            rintro e w5 ⟨rfl, m5, rfl⟩
            rw [HT2j.out, World.drewN_drewN]
            obtain ⟨j1, rfl⟩ : ∃ j1, j = j1 + 1 := ⟨j - 1, by omega⟩
            go_wp2
            go_roundw
            case rel => exact ⟨j1, m + m4 + m5, by go_num, by omega, rfl⟩
            case measure => simp [intOf]
        · have hjz : j = 0 := by omega
          subst hjz
          go_wp2_with fail
          refine (l17awake _).mono ?_
          rintro e w5 ⟨rfl, hb5⟩
          have HB5 := Lib.hid (HB3.out.trans (((below_drewN W3 m).mono (show w.heap.size ≤ W3.heap.size by omega)).trans (hb5.mono (show w.heap.size ≤ W3.heap.size by omega))))
          clear hb5
          go_wp2
          go_ret
          exact ⟨rfl, HB5.out⟩
end Go.Proofs.Ytogcnfhmcpkdcaa
