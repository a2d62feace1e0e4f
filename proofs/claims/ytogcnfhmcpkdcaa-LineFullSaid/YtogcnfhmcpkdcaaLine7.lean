/-
  The statement LineFull, its walk.
-/
import Derived.Test.YtogcnfhmcpkdcaaLine6
import Derived.Test.YtogcnfhmcpkdcaaFullLaw
import Derived.Deep.DeepMust
namespace Go.Proofs.Ytogcnfhmcpkdcaa
open Go.RowKit
set_option linter.unusedVariables false
set_option linter.unusedSimpArgs false

theorem l17l0 (n : Nat) (w : World) : Calls Try.prog 35 #[.int .i64 n] w fun e w' => e = .returned (.int .i64 (l0 n)) ∧ w = w' := by
  obtain ⟨v, hv⟩ : ∃ v, l0 n = v := ⟨_, rfl⟩
  rw [hv]
  by_cases h : n = 0
  · have e : v = 1 := by rw [← hv, l0, if_pos h]
    subst e
    have t : ((n : Int) == 0) = true := by simp; omega
    clear hv h
    go_enter Try.func35, Try.ntmps35
    go_wp2
    go_ret
    exact ⟨rfl, rfl⟩
  · have e : v = 2 := by rw [← hv, l0, if_neg h]
    subst e
    have t : ((n : Int) == 0) = false := by simp; omega
    clear hv h
    go_enter Try.func35, Try.ntmps35
    go_wp2
    go_ret
    exact ⟨rfl, rfl⟩

/-- another line, without items, behind what turns a line -/
theorem LineAt.other0 {w w' : World} {base p : Nat} {x : PLine} {la : Option Addr} {lc : Nat} {ms : List MItem} (h : LnAt w base p x la lc ms) {base2 p2 : Nat} {x2 : PLine} (h2 : LnAt w base2 p2 x2 none 0 []) (hne : p2 ≠ p) (ht : Turned p (Value.slice la ms.length lc).ownBlock w w') : LnAt w' base2 p2 x2 none 0 [] := by
  refine ⟨(ht.block p2 h2.lt hne (fun e => ?_)).trans h2.row, ⟨rfl, .inl ⟨rfl, rfl⟩⟩, h2.its, by simp, h2.pb⟩
  obtain ⟨cur, h9⟩ := own_block h.own e.symm
  rw [h2.row] at h9
  injection h9 with h9
  injection h9 with _ e2 _
  exact ne_types.1 e2.symm

/-- the first loop -/
structure Full1 (n : Nat) (w wr : World) (i : Nat) (la : Option Addr) (lc : Nat) (ms : List MItem) : Prop where
  le : i ≤ n
  ln : LnAt wr w.heap.size w.heap.size (xN n i) la lc ms
  m : LnAt wr (w.heap.size + 1) (w.heap.size + 1) (yN 0) none 0 []
  bel : Below w.heap.size w wr
  sz : w.heap.size + 2 ≤ wr.heap.size

/-- the second loop -/
structure Full2 (w W wr : World) (i : Nat) (a : Option Addr) (c : Nat) : Prop where
  own : wr.ownsRow W.heap.size 45 2 (.slice a i c) i (cellsM (List.replicate i (mk1 1)))
  m : LnAt wr (w.heap.size + 1) (w.heap.size + 1) (yN 0) none 0 []
  bel : Below W.heap.size W wr

theorem rep_it (i : Nat) : (List.replicate i (mk1 1)).map MItem.it = List.replicate i (1, []) := by simp [mk1]

theorem items_rep {w : World} {a : Option Addr} {c i B : Nat} (h : w.ownsRow B 45 2 (.slice a i c) i (cellsM (List.replicate i (mk1 1)))) : ItemsAt w w.heap.size a (List.replicate i (mk1 1)).length c (List.replicate i (mk1 1)) := by
  obtain ⟨a', c', e, hs⟩ := SlAt.ofOwns h
  injection e with e1 _ e2
  subst e1 e2
  rw [List.length_replicate]
  exact ⟨hs, fun m hm => by simp at hm; rw [hm.2]; exact bsNil _ _⟩

set_option maxRecDepth 100000 in
set_option maxHeartbeats 16000000 in
theorem lineFull_calls (A pc : Nat) (hA : A < 256) (hpc : pc < 256) (w : World) :
    Calls Try.prog 5 #[.int .u8 A, .int .u8 pc] w fun e w' => e = .returned (.bool true) ∧ Below w.heap.size w w' := by
  obtain ⟨i0, hi, hz0, hz1, hz2⟩ := info_parts infoItem3
  obtain ⟨n, hn⟩ : ∃ n : Nat, (A : Int) % 40 = n := ⟨A % 40, by omega⟩
  have hn39 : n ≤ 39 := by omega
  obtain ⟨M, hM⟩ : ∃ M : Nat, M = 4096 := ⟨_, rfl⟩
  have hM1 : M ≤ 4096 := by omega
  have hM2 : 4096 ≤ M := by omega
  have HM := Lib.hid hM
  have hmz : (4096 : Int) = (M : Int) := by omega
  have HMZ := Lib.hid hmz
  clear hM hmz
  go_enter Try.func5, Try.ntmps5
  go_wp2_with fail
  refine (lineNew_yes (1099511627776 - (n : Int)) 1 (by rw [isNew_iff]; omega) _).mono ?_
  rintro e w1 ⟨rfl, hl1, hb1, hs1⟩
  have HL1 := Lib.hid hl1
  have HB1 := Lib.hid hb1
  clear hl1 hb1
  go_wp2_with fail
  refine (lineNew_yes 0 0 (by rfl) _).mono ?_
  rintro e w2 ⟨rfl, hl2, hb2, hs2⟩
  rw [hs1] at hl2
  have HI0 := Lib.hid (show Full1 n w w2 0 none 0 [] from ⟨by omega, HL1.out.below hb2, hl2, HB1.out.trans (hb2.mono (by omega)), by omega⟩)
  rw [hs1]
  clear hl2 hb2 hn
  go_wp2_with fail
  go_loopw [8] (fun iv wr => ∃ (i : Nat) (la : Option Addr) (lc : Nat) (ms : List MItem), iv = .int .i64 i ∧ Full1 n w wr i la lc ms) (fun iv _ => n - (intOf iv).toNat)
  case atStart => exact ⟨0, none, 0, [], rfl, HI0.out⟩
  case round =>
    obtain ⟨i, la, lc, ms, rfl, hI⟩ := hrel
    have HI := Lib.hid hI
    have hin := hI.le
    have hsz := hI.sz
    clear hI
    by_cases hlt : i < n
    · have G := Lib.hid (xN_good (i := i) hn39 (by omega))
      have AD := Lib.hid (xN_add hn39 hlt)
      go_wp2_with fail
      refine (lineAdd w.heap.size w.heap.size (xN n i) G.out la lc ms 2 none 0 [] wr HI.out.ln (bsNil _ _) (by omega)).mono ?_
      rintro e w3 ⟨rfl, la3, lc3, ms3, hl3, ht3, ho3⟩
      rw [AD.out] at hl3 ⊢
      have HIN := Lib.hid (show Full1 n w w3 (i + 1) la3 lc3 ms3 from ⟨by omega, hl3, HI.out.ln.other0 HI.out.m (by omega) ht3, HI.out.bel.trans (HI.out.ln.turn ht3 (Nat.le_refl _) (by omega)), Nat.le_trans hsz ht3.size⟩)
      clear hl3 ht3 ho3
      go_wp2
      go_roundw
      case rel => exact ⟨i + 1, la3, lc3, ms3, by go_num, HIN.out⟩
      case measure => simp [intOf]; omega
    · have hin2 : i = n := by omega
      subst hin2
      have G := Lib.hid (xN_good (i := i) hn39 (by omega))
      have J := Lib.hid (xN_join hn39)
      have AF := Lib.hid (xN_full hn39)
      clear hlt
      go_wp2_with fail
      refine (l17l0 i _).mono ?_
      rintro e w3 ⟨rfl, rfl⟩
      go_wp2_with fail
      have hbA : Below wr.heap.size wr (wr.alloc (.cells #[.int .i64 3, .slice none 0 0] 45)) := (Below.refl _ _).alloc (Nat.le_refl _) _
      have HBA := Lib.hid hbA
      have HLA := Lib.hid (HI.out.ln.below hbA)
      have HMA := Lib.hid (HI.out.m.below hbA)
      have hpl4 := HI.out.ln.lt
      clear hbA
      refine (lineJoin w.heap.size w.heap.size (xN i i) G.out la lc ms 1099511627776 (l0 i) [mk1 3] (some ⟨wr.heap.size, 0, none⟩) 1 _ HLA.out (items_one wr 3) (by simp) (fun ad e => by cases e; show wr.heap.size ≠ _; omega) (by simp; omega)).mono ?_
      rintro e w4 ⟨rfl, la4, lc4, ms4, hl4, ht4, ho4⟩
      rw [show [mk1 3].map MItem.it = [(3, [])] from rfl, J.out] at hl4 ⊢
      have hs4 := ht4.size
      simp only [World.size_alloc] at hs4
      have HL4 := Lib.hid hl4
      have HM4 := Lib.hid (HLA.out.other0 HMA.out (by omega) ht4)
      have HB4 := Lib.hid (HI.out.bel.trans ((HBA.out.mono (by omega)).trans (HLA.out.turn ht4 (Nat.le_refl _) (by simp; omega))))
      clear hl4 ht4 ho4
      go_wp2_with fail
      refine (lineAdd w.heap.size w.heap.size (xN i i) G.out la4 lc4 ms4 2 none 0 [] w4 HL4.out (bsNil _ _) (by omega)).mono ?_
      rintro e w5 ⟨rfl, la5, lc5, ms5, hl5, ht5, ho5⟩
      rw [AF.out] at hl5 ⊢
      have hs5 := ht5.size
      have HM5 := Lib.hid (HL4.out.other0 HM4.out (by omega) ht5)
      have HB5 := Lib.hid (HB4.out.trans (HL4.out.turn ht5 (Nat.le_refl _) (by omega)))
      have HF0 := Lib.hid (show Full2 w w5 w5 0 none 0 from ⟨⟨rfl, .inl ⟨rfl, rfl⟩⟩, HM5.out, Below.refl _ _⟩)
      have hs05 : w.heap.size + 2 ≤ w5.heap.size := by omega
      clear hl5 ht5 ho5
      obtain ⟨wo, rfl⟩ : ∃ wo : World, wo = wr := ⟨_, rfl⟩
      go_wp2_with fail
      go_loopw [11, 12] (fun av jv wr => ∃ (j : Nat) (a : Option Addr) (c : Nat), jv = .int .i64 j ∧ av = .slice a j c ∧ j ≤ M ∧ Full2 w w5 wr j a c) (fun _ jv _ => M - (intOf jv).toNat)
      case atStart => exact ⟨0, none, 0, rfl, rfl, by omega, HF0.out⟩
      case round =>
        obtain ⟨j, a, c, rfl, rfl, hjM, hF⟩ := hrel
        have HF := Lib.hid hF
        have hszr := hF.bel.size
        clear hF
        by_cases hlt2 : j < M
        · have tj : decide ((j : Int) < 4096) = true := by simp; omega
          have hj96 : (j : Int) < 4096 := by omega
          go_wp2_with (at_builtin; refine wpList_append_sl _ rfl (.tmp 66) (.tmp 68) 49 rfl w5.heap.size 45 i0 (.agg #[.int .i64 0, .slice none 0 0]) 2 32 Try.underlying49 hi hz0 hz1 hz2 rfl (by decide) (.slice a j c) j _ rfl (HF.out.own.alloc _) (wr.heap.size + 1) (some ⟨wr.heap.size, 0, none⟩) 1 1 [.int .i64 1, .slice none 0 0] rfl (slAt_item wr #[.int .i64 1, .slice none 0 0] 45 2 rfl) (by intro u hu; simp at hu; rcases hu with rfl | rfl <;> rfl) (by unfold maxLen; omega) (by omega) (by simp; omega) ?_; intro a6 c6 w6 hown6 hgrow6 hat6)
          have hb6 : Below w5.heap.size w5 w6 := (HF.out.bel.alloc hszr _).grown hgrow6 (by simp; omega) (fun k hk => (own_lt HF.out.own hk).1)
          have hbm : Below (w.heap.size + 2) wr w6 := ((Below.refl _ wr).alloc (show w.heap.size + 2 ≤ wr.heap.size by omega) (.cells #[.int .i64 1, .slice none 0 0] 45)).grown hgrow6 (by simp; omega) (fun k hk => by have h9 := (own_lt HF.out.own hk).1; omega)
          have HFN := Lib.hid (show Full2 w w5 w6 (j + 1) a6 c6 from ⟨by
            rw [List.replicate_succ', cellsM_append]
            exact hown6, ⟨(hbm.block _ (by omega)).trans HF.out.m.row, ⟨rfl, .inl ⟨rfl, rfl⟩⟩, HF.out.m.its, by simp, HF.out.m.pb⟩, hb6⟩)
          clear hown6 hgrow6 hat6 hb6 hbm tj
          go_wp2
          go_roundw
          case rel => exact ⟨j + 1, a6, c6, by go_num, rfl, by omega, HFN.out⟩
          case measure => simp [intOf]; omega
        · have hjM2 : j = M := by omega
          subst hjM2
          have tj : decide ((j : Int) < 4096) = false := by simp; omega
          have hj := lineJoin (w.heap.size + 1) (w.heap.size + 1) (yN 0) (yN_good (by omega)) none 0 [] 0 0 (List.replicate j (mk1 1)) a c wr HF.out.m (items_rep HF.out.own) (by simp; omega) (fun ad e => by
            have h9 : w5.heap.size ≤ ad.block := (own_lt HF.out.own (g := ad.block) (by rw [e]; rfl)).1
            omega) (by omega)
          rw [List.length_replicate, rep_it, yN_join1 (by omega) hM1] at hj
          have HJ := Lib.hid hj
          have G7 := Lib.hid (yN_good hM1)
          have J2 := Lib.hid (show (yN j).join (4096 - (pc : Int)) 1 (List.replicate (pc + 1) (1, [])) = (yN j, 0, false) by
            rw [HMZ.out]; exact yN_join2 hM2 (by omega))
          have LA := Lib.hid (show (yN j).last = 4096 by rw [yN_last, HMZ.out])
          clear hj hlt2
          go_wp2_with fail
          refine HJ.out.mono ?_
          rintro e w7 ⟨rfl, la7, lc7, ms7, hl7, ht7, ho7⟩
          have hs7 := ht7.size
          have HL7 := Lib.hid hl7
          have HO7 := Lib.hid (show w7.ownsRow w5.heap.size 45 2 (.slice a j c) j (cellsM (List.replicate j (mk1 1))) from World.ownsRow.kept HF.out.own (row := some (w.heap.size + 1)) ⟨ht7.os, ht7.tape, ht7.output, ht7.size, fun k hk hne => ht7.block k hk (fun e => hne (by rw [e])) (by simp [Value.ownBlock])⟩ (.inr fun e => by have h9 := (own_lt HF.out.own e).1; omega))
          have HB7 := Lib.hid (show Below w.heap.size w w7 from HB5.out.trans ((HF.out.bel.mono (by omega)).trans (ht7.below (by omega) (fun k hk => by simp [Value.ownBlock] at hk) (by omega))))
          have hcj : j ≤ c := by
            obtain ⟨a9, c9, e9, hs9⟩ := SlAt.ofOwns HF.out.own
            injection e9 with _ _ e10
            rw [e10]; exact hs9.hle
          have hrunu : ∀ w' : World, (Instr.slice 49 (.slice a j c) none (some (.int .i64 ((pc : Int) + 1))) none).run Try.prog w' = .ok (.slice a (pc + 1) c) w' := fun w' =>
            run_upto Try.underlying49 infoItem a j c .i64 (pc + 1) (by omega) w'
          have hit := items_rep HO7.out
          have hit2 : ItemsAt w7 w7.heap.size a (List.replicate (pc + 1) (mk1 1)).length c (List.replicate (pc + 1) (mk1 1)) := by
            have h9 := hit.sl.upto (k := pc + 1) (m := c) (by simp; omega) (by omega) (Nat.le_refl _)
            rw [cellsM_take, List.take_replicate, show min (pc + 1) j = pc + 1 by omega] at h9
            rw [List.length_replicate]
            exact ⟨h9, fun m hm => by simp at hm; rw [hm]; exact bsNil _ _⟩
          have hj2 := lineJoin (w.heap.size + 1) (w.heap.size + 1) (yN j) G7.out la7 lc7 ms7 (4096 - (pc : Int)) 1 (List.replicate (pc + 1) (mk1 1)) a c w7 HL7.out hit2 (by simp; omega) (fun ad e => by
            have h9 : w5.heap.size ≤ ad.block := (own_lt HF.out.own (g := ad.block) (by rw [e]; rfl)).1
            omega) (by omega)
          rw [List.length_replicate, rep_it, J2.out] at hj2
          have HJ2 := Lib.hid hj2
          clear hl7 ht7 ho7 hit hit2 hj2 hcj
          go_wp2_with fail
          refine HJ2.out.mono ?_
          rintro e w8 ⟨rfl, la8, lc8, ms8, hl8, ht8, ho8⟩
          have hs8 := ht8.size
          have HL8 := Lib.hid hl8
          have HB8 := Lib.hid (HB7.out.trans (HL7.out.turn ht8 (show w.heap.size ≤ w.heap.size + 1 by omega) (by omega)))
          clear hl8 ht8 ho8 hrunu
          go_wp2_with fail
          refine (lineLast (w.heap.size + 1) (w.heap.size + 1) (yN j) G7.out la8 lc8 ms8 w8 HL8.out).mono ?_
          rintro e w9 ⟨rfl, n9, rfl⟩
          have HL9 := Lib.hid (HL8.out.drewN n9)
          have HB9 := Lib.hid (HB8.out.trans ((below_drewN w8 n9).mono (by omega)))
          have hs9 : (w8.drewN n9).heap.size = w8.heap.size := rfl
          have AF2 := Lib.hid (yN_full hM2)
          obtain ⟨ty, hty⟩ : ∃ ty, (tmIs (yN j) (yN j).last).1 = ty := ⟨_, rfl⟩
          rw [hty, LA.out]
          clear hty
          go_wp2_with fail
          refine (lineAdd (w.heap.size + 1) (w.heap.size + 1) (yN j) G7.out la8 lc8 ms8 1 none 0 [] _ HL9.out (bsNil _ _) (by omega)).mono ?_
          rintro e w10 ⟨rfl, la10, lc10, ms10, hl10, ht10, ho10⟩
          rw [AF2.out]
          have hs10 := ht10.size
          have HB10 := Lib.hid (HB9.out.trans (HL9.out.turn ht10 (show w.heap.size ≤ w.heap.size + 1 by omega) (by omega)))
          clear hl10 ht10 ho10
          go_wp2_with fail
          refine (l17awake _).mono ?_
          rintro e w11 ⟨rfl, hb11⟩
          have HB11 := Lib.hid (HB10.out.trans (hb11.mono (by omega)))
          clear hb11
          go_wp2
          go_ret
          exact ⟨rfl, HB11.out⟩
end Go.Proofs.Ytogcnfhmcpkdcaa
