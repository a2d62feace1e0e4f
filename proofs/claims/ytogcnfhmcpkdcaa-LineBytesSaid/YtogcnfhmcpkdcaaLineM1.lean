/-
  Contract of layer 17's 'is': a line has what the reference's line has.
  Contract of layer 17's 'is', the index the base.
  Contract of layer 17's 'is', the index above the last.
  Contract of layer 17's 'is', the index inside.
  Contract of layer 17's 'is', any index.
-/
import Derived.Test.YtogcnfhmcpkdcaaLine9
import Derived.Test.YtogcnfhmcpkdcaaLineM6
import Derived.Test.YtogcnfhmcpkdcaaLineM8
namespace Go.Proofs.Ytogcnfhmcpkdcaa
open Go.RowKit
set_option linter.unusedVariables false
set_option linter.unusedSimpArgs false

set_option maxRecDepth 100000 in
set_option maxHeartbeats 1000000 in
theorem l17is_low (base p : Nat) (x : PLine) (hg : x.Good) (la : Option Addr) (lc : Nat) (ms : List MItem) (ra : Option Addr) (rc : Nat) (rs : List MItem) (i : Int) (w : World) (h : LnAt w base p x la lc ms) (hr : RAt w w.heap.size x ra rc rs) (hlo : i < x.base) :
    Calls Try.prog 59 #[.pointer (some ⟨p, 0, none⟩), rv x ra rs.length rc, .int .i64 i] w fun e w' => e = .returned (.bool true) ∧ Below w.heap.size w w' := by
  have hpl := h.lt
  have h1 := hg.b0
  have h2 := hg.b1
  have hT : tmIs x i = (0, false) := by rw [tmIs, if_neg (by rw [hg.tm_ge]; omega)]
  have hA : x.tm i = -1 := by rw [PLine.tm, if_neg (by omega), if_pos (.inl hlo)]
  obtain ⟨lt, hlt⟩ : ∃ lt, (tmIs x x.last).1 = lt := ⟨_, rfl⟩
  obtain ⟨L, hL⟩ : ∃ L, x.last = L := ⟨_, rfl⟩
  rw [hL] at hlt
  have hAL : x.tm L = lt := by
    rw [← hlt, ← hL, tmIs]
    have h9 : 0 ≤ x.tm x.last := by rw [hg.tm_ge]; exact ⟨by show x.base ≤ x.base + _; omega, by omega⟩
    rw [if_pos h9]
  have HT := Lib.hid hT
  have HA := Lib.hid hA
  have HLT := Lib.hid hlt
  have HL := Lib.hid hL
  have HAL := Lib.hid hAL
  obtain ⟨W1, hW1⟩ : ∃ W1, W1 = w.alloc (.cells #[.int .i64 x.base, .int .i64 x.term, .slice ra rs.length rc] 88) := ⟨_, rfl⟩
  have hs1 : W1.heap.size = w.heap.size + 1 := by rw [hW1]; simp
  have hbW : Below w.heap.size w W1 := by rw [hW1]; exact (Below.refl _ w).alloc (Nat.le_refl _) _
  have hr0 : W1.heap[w.heap.size]? = some (.cells #[.int .i64 x.base, .int .i64 x.term, .slice ra rs.length rc] 88 (0, 0)) := by rw [hW1]; exact heap_alloc_new w _
  have HW1 := Lib.hid hW1
  have HBW := Lib.hid hbW
  have HR0 := Lib.hid hr0
  have HH := Lib.hid (h.below hbW)
  have HR := Lib.hid hr
  have t0 : decide (x.base < i) = false := by simp; omega
  clear h hr hT hA hlt hL hAL hW1 hbW hr0 hlo
  go_enter Try.func59, Try.ntmps59
  go_wp2_with fail
  rw [← HW1.out]
  refine (lineBase base p x la lc ms _ HH.out).mono ?_
  rintro e w2 ⟨rfl, m2, rfl⟩
  go_wp2_with fail
  refine (lineLast base p x hg la lc ms _ (HH.out.drewN m2)).mono ?_
  rintro e w3 ⟨rfl, m3, rfl⟩
  rw [HL.out, HLT.out, World.drewN_drewN]
  go_wp2_with fail
  refine (lineTerm base p x hg la lc ms i _ (HH.out.drewN (m2 + m3))).mono ?_
  rintro e w4 ⟨rfl, m4, rfl⟩
  rw [HT.out, World.drewN_drewN]
  go_wp2_with fail
  obtain ⟨V, hV⟩ : ∃ V, V = W1.drewN (m2 + m3 + m4) := ⟨_, rfl⟩
  rw [← hV]
  have HLV := Lib.hid (show LnAt V base p x la lc ms by rw [hV]; exact HH.out.drewN _)
  have hsV : V.heap.size = w.heap.size + 1 := by rw [hV]; exact hs1
  have HRV := Lib.hid (show V.heap[w.heap.size]? = some (.cells #[.int .i64 x.base, .int .i64 x.term, .slice ra rs.length rc] 88 (0, 0)) by rw [hV]; exact HR0.out)
  have HBV := Lib.hid (show Below w.heap.size w V by rw [hV]; exact HBW.out.trans ((below_drewN W1 _).mono (by omega)))
  clear hV
  refine (lineItem base p x hg la lc ms i _ HLV.out).mono ?_
  intro e w5 hit
  unfold ItemTo at hit
  rw [if_neg (by intro h9; have := of_decide_eq_false t0; exact this h9.1)] at hit
  obtain ⟨rfl, hb5⟩ := hit
  have hs5 := hb5.size
  have HR5 := Lib.hid ((hb5.block w.heap.size (by omega)).trans HRV.out)
  have HB5 := Lib.hid (HBV.out.trans (hb5.mono (by omega)))
  have HL5 := Lib.hid (HLV.out.below hb5)
  clear hb5
  have hlt5 : w.heap.size < w5.heap.size := by omega
  have hlt5' : w.heap.size < w5.heap.size + 1 := by omega
  go_wp2_with (first
    | (refine wpList_store_new rfl 45 (.tmp 13) (.tmp 38) rfl #[.int .i64 0, .slice none 0 0] rfl rfl 45 _ infoItem rfl (by simp [Value.oneCell']) ?_; intro W6 hrow6 hb6 hs6)
    | (refine wpList_load_is rfl 88 (.tmp 4) rfl w.heap.size rfl 88 #[.int .i64 x.base, .int .i64 x.term, .slice ra rs.length rc] _ ((hb6.block w.heap.size hlt5).trans HR5.out) Try.underlying88 rfl infoRLine ?_))
  have HR6 := Lib.hid ((hb6.block w.heap.size hlt5).trans HR5.out)
  have HB6 := Lib.hid (HB5.out.trans (hb6.mono (by omega)))
  have HL6 := Lib.hid (HL5.out.below hb6)
  have HROW6 := Lib.hid hrow6
  have hlt6 : w.heap.size < W6.heap.size := by omega
  have hwl6 : w5.heap.size < W6.heap.size := by omega
  clear hb6 hrow6
  refine (r17At x hg ra rc rs i _ ((HR.out.below HB6.out (Nat.le_refl _)).mono (by omega))).mono ?_
  rintro e w7 ⟨rfl, hb7⟩
  rw [HA.out]
  have hs7 := hb7.size
  have HR7 := Lib.hid ((hb7.block w.heap.size hlt6).trans HR6.out)
  have HB7 := Lib.hid (HB6.out.trans (hb7.mono (by omega)))
  have HL7 := Lib.hid (HL6.out.below hb7)
  have d0 : w7.cell? ⟨w.heap.size, 0, none⟩ = some (.int .i64 x.base) := cell_of_row w7 w.heap.size 0 _ _ _ HR7.out
  have d1 : w7.cell? ⟨w.heap.size, 1, none⟩ = some (.int .i64 x.term) := cell_of_row w7 w.heap.size 1 _ _ _ HR7.out
  have d2 : w7.cell? ⟨w.heap.size, 2, none⟩ = some (.slice ra rs.length rc) := cell_of_row w7 w.heap.size 2 _ _ _ HR7.out
  clear hb7
  go_wp2_with fail
  refine (r17Last x hg ra rs.length rc HR.out.len _).mono ?_
  rintro e w8 ⟨rfl, hb8⟩
  rw [HL.out]
  have hs8 := hb8.size
  have HR8 := Lib.hid ((hb8.block w.heap.size (by omega)).trans HR7.out)
  have HB8 := Lib.hid (HB7.out.trans (hb8.mono (by omega)))
  have HL8 := Lib.hid (HL7.out.below hb8)
  clear d0 d1 d2 hb8
  have d0 : w8.cell? ⟨w.heap.size, 0, none⟩ = some (.int .i64 x.base) := cell_of_row w8 w.heap.size 0 _ _ _ HR8.out
  have d1 : w8.cell? ⟨w.heap.size, 1, none⟩ = some (.int .i64 x.term) := cell_of_row w8 w.heap.size 1 _ _ _ HR8.out
  have d2 : w8.cell? ⟨w.heap.size, 2, none⟩ = some (.slice ra rs.length rc) := cell_of_row w8 w.heap.size 2 _ _ _ HR8.out
  go_wp2_with fail
  refine (r17At x hg ra rc rs L _ ((HR.out.below HB8.out (Nat.le_refl _)).mono (by omega))).mono ?_
  rintro e w9 ⟨rfl, hb9⟩
  rw [HAL.out]
  have hs9 := hb9.size
  have HR9 := Lib.hid ((hb9.block w.heap.size (by omega)).trans HR8.out)
  have HB9 := Lib.hid (HB8.out.trans (hb9.mono (by omega)))
  have HL9 := Lib.hid (HL8.out.below hb9)
  clear d0 d1 d2 hb9
  have HS9 := Lib.hid (show LnS w.heap.size x.base x.term ra rs.length rc w9 from ⟨cell_of_row w9 w.heap.size 0 _ _ _ HR9.out, cell_of_row w9 w.heap.size 1 _ _ _ HR9.out, cell_of_row w9 w.heap.size 2 _ _ _ HR9.out⟩)
  have hlt9 : w.heap.size < w9.heap.size := by omega
  have d0 := HS9.out.g0
  have d1 := HS9.out.g1
  have d2 := HS9.out.g2
  go_wp2_with fail
  clear d0 d1 d2
  refine wp_region_any (by kernel_rfl) ?_
  refine wpAny_of_held (S := LnS w.heap.size x.base x.term ra rs.length rc) _ _ _ _ ?_
  have hS0 : LnS w.heap.size x.base x.term ra rs.length rc w9.drew := HS9.out.keep (N := w9.heap.size) (Below.refl _ _).drew hlt9
  refine heldTake 0 80 rfl rfl (by kernel_rfl) (by kernel_rfl) (by kernel_rfl) (fun _ _ _ h => h) hS0 (.inl ⟨by rfl, by intro w' hS; obtain ⟨s1, s2, s3⟩ := hS; go_simp; (try rfl)⟩) ?_
  simp only [List.set_cons_zero, List.set_cons_succ]
  refine heldTake 1 81 rfl rfl (by kernel_rfl) (by kernel_rfl) (by kernel_rfl) (fun _ _ _ h => h) hS0 (.inl ⟨by rfl, by intro w' hS; obtain ⟨s1, s2, s3⟩ := hS; go_simp; (try rfl)⟩) ?_
  simp only [List.set_cons_zero, List.set_cons_succ]
  refine heldTake 2 82 rfl rfl (by kernel_rfl) (by kernel_rfl) (by kernel_rfl) (fun _ _ _ h => h) hS0 (.inl ⟨by rfl, by intro w' hS; obtain ⟨s1, s2, s3⟩ := hS; go_simp; (try rfl)⟩) ?_
  simp only [List.set_cons_zero, List.set_cons_succ]
  refine heldTake 3 83 rfl rfl (by kernel_rfl) (by kernel_rfl) (by kernel_rfl) (fun _ _ _ h => h) hS0 (.inl ⟨by rfl, by intro w' hS; obtain ⟨s1, s2, s3⟩ := hS; go_simp; (try rfl)⟩) ?_
  simp only [List.set_cons_zero, List.set_cons_succ]
  refine heldTake 4 84 rfl rfl (by kernel_rfl) (by kernel_rfl) (by kernel_rfl) (fun _ _ _ h => h) hS0 (.inl ⟨by rfl, by intro w' hS; obtain ⟨s1, s2, s3⟩ := hS; go_simp; (try rfl)⟩) ?_
  simp only [List.set_cons_zero, List.set_cons_succ]
  refine heldTake 5 85 rfl rfl (by kernel_rfl) (by kernel_rfl) (by kernel_rfl) (fun _ _ _ h => h) hS0 (.inl ⟨by rfl, by intro w' hS; obtain ⟨s1, s2, s3⟩ := hS; go_simp; (try rfl)⟩) ?_
  simp only [List.set_cons_zero, List.set_cons_succ]
  refine heldTake 6 86 rfl rfl (by kernel_rfl) (by kernel_rfl) (by kernel_rfl) (fun _ _ _ h => h) hS0 (.inr ⟨by rfl, rfl⟩) ?_
  simp only [List.set_cons_zero, List.set_cons_succ]
  refine heldTake 7 87 rfl rfl (by kernel_rfl) (by kernel_rfl) (by kernel_rfl) (fun _ _ _ h => h) hS0 (.inr ⟨by rfl, rfl⟩) ?_
  simp only [List.set_cons_zero, List.set_cons_succ]
  refine heldTake 8 88 rfl rfl (by kernel_rfl) (by kernel_rfl) (by kernel_rfl) (fun _ _ _ h => h) hS0 (.inr ⟨by rfl, rfl⟩) ?_
  simp only [List.set_cons_zero, List.set_cons_succ]
  refine heldTake 9 89 rfl rfl (by kernel_rfl) (by kernel_rfl) (by kernel_rfl) (fun _ _ _ h => h) hS0 (.inr ⟨by rfl, rfl⟩) ?_
  simp only [List.set_cons_zero, List.set_cons_succ]
  refine heldTake 10 90 rfl rfl (by kernel_rfl) (by kernel_rfl) (by kernel_rfl) (fun _ _ _ h => h) hS0 (.inl ⟨by rfl, by intro w' hS; obtain ⟨s1, s2, s3⟩ := hS; go_simp; (try rfl)⟩) ?_
  simp only [List.set_cons_zero, List.set_cons_succ]
  refine heldTake 11 91 rfl rfl (by kernel_rfl) (by kernel_rfl) (by kernel_rfl) (fun _ _ _ h => h) hS0 (.inl ⟨by rfl, by intro w' hS; obtain ⟨s1, s2, s3⟩ := hS; go_simp; (try rfl)⟩) ?_
  simp only [List.set_cons_zero, List.set_cons_succ]
  refine heldTake 12 92 rfl rfl (by kernel_rfl) (by kernel_rfl) (by kernel_rfl) (fun _ _ _ h => h) hS0 (.inl ⟨by rfl, by intro w' hS; obtain ⟨s1, s2, s3⟩ := hS; go_simp; (try rfl)⟩) ?_
  simp only [List.set_cons_zero, List.set_cons_succ]
  refine heldTake 13 93 rfl rfl (by kernel_rfl) (by kernel_rfl) (by kernel_rfl) (fun _ _ _ h => h) hS0 (.inl ⟨by rfl, by intro w' hS; obtain ⟨s1, s2, s3⟩ := hS; go_simp; (try rfl)⟩) ?_
  simp only [List.set_cons_zero, List.set_cons_succ]
  refine heldTake 14 94 rfl rfl (by kernel_rfl) (by kernel_rfl) (by kernel_rfl) (fun _ _ _ h => h) hS0 (.inl ⟨by rfl, by intro w' hS; obtain ⟨s1, s2, s3⟩ := hS; go_simp; (try rfl)⟩) ?_
  simp only [List.set_cons_zero, List.set_cons_succ]
  refine heldTake 15 95 rfl rfl (by kernel_rfl) (by kernel_rfl) (by kernel_rfl) (fun _ _ _ h => h) hS0 (.inr ⟨by rfl, rfl⟩) ?_
  simp only [List.set_cons_zero, List.set_cons_succ]
  refine heldTake 16 96 rfl rfl (by kernel_rfl) (by kernel_rfl) (by kernel_rfl) (fun _ _ _ h => h) hS0 (.inr ⟨by rfl, rfl⟩) ?_
  simp only [List.set_cons_zero, List.set_cons_succ]
  refine heldTake 17 97 rfl rfl (by kernel_rfl) (by kernel_rfl) (by kernel_rfl) (fun _ _ _ h => h) hS0 (.inr ⟨by rfl, rfl⟩) ?_
  simp only [List.set_cons_zero, List.set_cons_succ]
  refine heldTake 18 98 rfl rfl (by kernel_rfl) (by kernel_rfl) (by kernel_rfl) (fun _ _ _ h => h) hS0 (.inr ⟨by rfl, rfl⟩) ?_
  simp only [List.set_cons_zero, List.set_cons_succ]
  refine heldTake 19 99 rfl rfl (by kernel_rfl) (by kernel_rfl) (by kernel_rfl) (fun _ _ _ h => h) hS0 (.inr ⟨by rfl, rfl⟩) ?_
  simp only [List.set_cons_zero, List.set_cons_succ]
  refine heldTake 20 100 rfl rfl (by kernel_rfl) (by kernel_rfl) (by kernel_rfl) (fun _ _ _ h => h) hS0 (.inr ⟨by rfl, rfl⟩) ?_
  simp only [List.set_cons_zero, List.set_cons_succ]
  refine heldTake 21 101 rfl rfl (by kernel_rfl) (by kernel_rfl) (by kernel_rfl) (fun _ _ _ h => h) hS0 (.inr ⟨by rfl, rfl⟩) ?_
  simp only [List.set_cons_zero, List.set_cons_succ]
  refine heldTake 22 102 rfl rfl (by kernel_rfl) (by kernel_rfl) (by kernel_rfl) (fun _ _ _ h => h) hS0 (.inl ⟨by rfl, by intro w' hS; obtain ⟨s1, s2, s3⟩ := hS; go_simp; (try rfl)⟩) ?_
  simp only [List.set_cons_zero, List.set_cons_succ]
  refine heldTake 23 103 rfl rfl (by kernel_rfl) (by kernel_rfl) (by kernel_rfl) (fun _ _ _ h => h) hS0 (.inl ⟨by rfl, by intro w' hS; obtain ⟨s1, s2, s3⟩ := hS; go_simp; (try rfl)⟩) ?_
  simp only [List.set_cons_zero, List.set_cons_succ]
  refine wpAnyH_done (by kernel_rfl) ?_ _
  clear hS0
  obtain ⟨V9, hV9⟩ : ∃ V9, V9 = w9.drew := ⟨_, rfl⟩
  refine (show Exit.then _ _ _ _ w9.drew from ?_)
  rw [← hV9]
  have hb9 : Below w9.heap.size w9 V9 := by rw [hV9]; exact (Below.refl _ _).drew
  have hs9' := hb9.size
  have HSV9 := Lib.hid (HS9.out.keep hb9 hlt9)
  have HBV9 := Lib.hid (HB9.out.trans (hb9.mono (by omega)))
  have HLV9 := Lib.hid (HL9.out.below hb9)
  clear hV9 hb9
  go_wp2_with fail
  have wB : IntKind.i64.wrap (x.base + 1) = x.base + 1 := IntWalk.i64_in _ (by omega)
  refine wp_region_any (by kernel_rfl) ?_
  refine wpAny_of_held (S := LnS w.heap.size x.base x.term ra rs.length rc) _ _ _ _ ?_
  have hS0 : LnS w.heap.size x.base x.term ra rs.length rc V9.drew := HSV9.out.keep (N := V9.heap.size) (Below.refl _ _).drew (by omega)
  refine heldTake 0 104 rfl rfl (by kernel_rfl) (by kernel_rfl) (by kernel_rfl) (fun _ _ _ h => h) hS0 (.inl ⟨by rfl, by intro w' hS; obtain ⟨s1, s2, s3⟩ := hS; go_simp; (try rfl)⟩) ?_
  simp only [List.set_cons_zero, List.set_cons_succ]
  refine heldTake 1 105 rfl rfl (by kernel_rfl) (by kernel_rfl) (by kernel_rfl) (fun _ _ _ h => h) hS0 (.inl ⟨by rfl, by intro w' hS; obtain ⟨s1, s2, s3⟩ := hS; go_simp; (try rfl)⟩) ?_
  simp only [List.set_cons_zero, List.set_cons_succ]
  refine heldTake 2 106 rfl rfl (by kernel_rfl) (by kernel_rfl) (by kernel_rfl) (fun _ _ _ h => h) hS0 (.inl ⟨by rfl, by intro w' hS; obtain ⟨s1, s2, s3⟩ := hS; go_simp; (try rfl)⟩) ?_
  simp only [List.set_cons_zero, List.set_cons_succ]
  refine heldTake 4 108 rfl rfl (by kernel_rfl) (by kernel_rfl) (by kernel_rfl) (fun _ _ _ h => h) hS0 (.inl ⟨by rfl, by intro w' hS; obtain ⟨s1, s2, s3⟩ := hS; go_simp; (try rfl)⟩) ?_
  simp only [List.set_cons_zero, List.set_cons_succ]
  refine heldTake 5 109 rfl rfl (by kernel_rfl) (by kernel_rfl) (by kernel_rfl) (fun _ _ _ h => h) hS0 (.inl ⟨by rfl, by intro w' hS; obtain ⟨s1, s2, s3⟩ := hS; go_simp; (try rfl)⟩) ?_
  simp only [List.set_cons_zero, List.set_cons_succ]
  refine heldOne 3 (by kernel_rfl) rfl (by rfl) ?_
  go_simp
  have hVd : Below V9.heap.size V9 V9.drew := (Below.refl _ _).drew
  refine (lineFromA base p x hg la lc ms (x.base + 1) 5000 _ (HLV9.out.below hVd)).mono ?_
  rintro e w10 ⟨a10, c10, ms10, rfl, ho10, hi10, hb10⟩
  rw [hg.from_all] at hi10
  have hb10' : Below V9.heap.size V9 w10 := hVd.trans hb10
  have hs10 := hb10'.size
  have hS10 := HSV9.out.keep hb10' (by omega)
  have HB10 := Lib.hid (HBV9.out.trans (hb10'.mono (by omega)))
  have HO10 := Lib.hid ho10
  have HI10 := Lib.hid hi10
  have hl10 : ms10.length ≤ 1000000 := by
    have h9 := congrArg List.length HI10.out
    have h8 := hg.n1
    simp at h9
    omega
  refine ⟨hS10, ?_⟩
  clear ho10 hi10 hb10 hb10' hVd hS0
  refine heldOne 6 (by kernel_rfl) rfl (by rfl) ?_
  go_simp
  refine (r17Same ms10 rs a10 ra _ c10 _ rc hl10 _ HO10.out.at ((HR.out.its.below HB10.out (Nat.le_refl _)).mono (by omega))).mono ?_
  rintro e w11 ⟨rfl, hb11⟩
  rw [show decide (ms10.map MItem.it = rs.map MItem.it) = true from decide_eq_true (HI10.out.trans HR.out.eq.symm)]
  have hS11 := hS10.keep hb11 (by omega)
  have HB11 := Lib.hid (HB10.out.trans (hb11.mono (by omega)))
  refine ⟨hS11, ?_⟩
  clear hb11 hS10
  refine heldTake 7 6 rfl rfl (by kernel_rfl) (by kernel_rfl) (by kernel_rfl) (fun _ _ _ h => h) hS11 (.inl ⟨by rfl, by intro w' hS; obtain ⟨s1, s2, s3⟩ := hS; go_simp; (try rfl)⟩) ?_
  simp only [List.set_cons_zero, List.set_cons_succ]
  refine wpAnyH_done (by kernel_rfl) ?_ _
  clear hS11
  go_wp2
  go_ret
  exact ⟨rfl, HB11.out⟩
end Go.Proofs.Ytogcnfhmcpkdcaa

namespace Go.Proofs.Ytogcnfhmcpkdcaa
open Go.RowKit
set_option linter.unusedVariables false
set_option linter.unusedSimpArgs false

set_option maxRecDepth 100000 in
set_option maxHeartbeats 1000000 in
theorem l17is_base (base p : Nat) (x : PLine) (hg : x.Good) (la : Option Addr) (lc : Nat) (ms : List MItem) (ra : Option Addr) (rc : Nat) (rs : List MItem) (i : Int) (w : World) (h : LnAt w base p x la lc ms) (hr : RAt w w.heap.size x ra rc rs) (hlo : i = x.base) :
    Calls Try.prog 59 #[.pointer (some ⟨p, 0, none⟩), rv x ra rs.length rc, .int .i64 i] w fun e w' => e = .returned (.bool true) ∧ Below w.heap.size w w' := by
  have hpl := h.lt
  have h1 := hg.b0
  have h2 := hg.b1
  have hA : x.tm i = x.term := by rw [PLine.tm, if_pos hlo]
  have hT : tmIs x i = (x.term, true) := by rw [tmIs, if_pos (by rw [hA]; exact hg.t0), hA]
  have q0 := hg.t0
  obtain ⟨lt, hlt⟩ : ∃ lt, (tmIs x x.last).1 = lt := ⟨_, rfl⟩
  obtain ⟨L, hL⟩ : ∃ L, x.last = L := ⟨_, rfl⟩
  rw [hL] at hlt
  have hAL : x.tm L = lt := by
    rw [← hlt, ← hL, tmIs]
    have h9 : 0 ≤ x.tm x.last := by rw [hg.tm_ge]; exact ⟨by show x.base ≤ x.base + _; omega, by omega⟩
    rw [if_pos h9]
  have HT := Lib.hid hT
  have HA := Lib.hid hA
  have HLT := Lib.hid hlt
  have HL := Lib.hid hL
  have HAL := Lib.hid hAL
  obtain ⟨W1, hW1⟩ : ∃ W1, W1 = w.alloc (.cells #[.int .i64 x.base, .int .i64 x.term, .slice ra rs.length rc] 88) := ⟨_, rfl⟩
  have hs1 : W1.heap.size = w.heap.size + 1 := by rw [hW1]; simp
  have hbW : Below w.heap.size w W1 := by rw [hW1]; exact (Below.refl _ w).alloc (Nat.le_refl _) _
  have hr0 : W1.heap[w.heap.size]? = some (.cells #[.int .i64 x.base, .int .i64 x.term, .slice ra rs.length rc] 88 (0, 0)) := by rw [hW1]; exact heap_alloc_new w _
  have HW1 := Lib.hid hW1
  have HBW := Lib.hid hbW
  have HR0 := Lib.hid hr0
  have HH := Lib.hid (h.below hbW)
  have HR := Lib.hid hr
  have t0 : decide (x.base < i) = false := by simp; omega
  have t1 : decide (0 ≤ x.term) = true := by simpa using q0
  clear h hr hT hA hlt hL hAL hW1 hbW hr0 hlo
  go_enter Try.func59, Try.ntmps59
  go_wp2_with fail
  rw [← HW1.out]
  refine (lineBase base p x la lc ms _ HH.out).mono ?_
  rintro e w2 ⟨rfl, m2, rfl⟩
  go_wp2_with fail
  refine (lineLast base p x hg la lc ms _ (HH.out.drewN m2)).mono ?_
  rintro e w3 ⟨rfl, m3, rfl⟩
  rw [HL.out, HLT.out, World.drewN_drewN]
  go_wp2_with fail
  refine (lineTerm base p x hg la lc ms i _ (HH.out.drewN (m2 + m3))).mono ?_
  rintro e w4 ⟨rfl, m4, rfl⟩
  rw [HT.out, World.drewN_drewN]
  go_wp2_with fail
  obtain ⟨V, hV⟩ : ∃ V, V = W1.drewN (m2 + m3 + m4) := ⟨_, rfl⟩
  rw [← hV]
  have HLV := Lib.hid (show LnAt V base p x la lc ms by rw [hV]; exact HH.out.drewN _)
  have hsV : V.heap.size = w.heap.size + 1 := by rw [hV]; exact hs1
  have HRV := Lib.hid (show V.heap[w.heap.size]? = some (.cells #[.int .i64 x.base, .int .i64 x.term, .slice ra rs.length rc] 88 (0, 0)) by rw [hV]; exact HR0.out)
  have HBV := Lib.hid (show Below w.heap.size w V by rw [hV]; exact HBW.out.trans ((below_drewN W1 _).mono (by omega)))
  clear hV
  refine (lineItem base p x hg la lc ms i _ HLV.out).mono ?_
  intro e w5 hit
  unfold ItemTo at hit
  rw [if_neg (by intro h9; have := of_decide_eq_false t0; exact this h9.1)] at hit
  obtain ⟨rfl, hb5⟩ := hit
  have hs5 := hb5.size
  have HR5 := Lib.hid ((hb5.block w.heap.size (by omega)).trans HRV.out)
  have HB5 := Lib.hid (HBV.out.trans (hb5.mono (by omega)))
  have HL5 := Lib.hid (HLV.out.below hb5)
  clear hb5
  have hlt5 : w.heap.size < w5.heap.size := by omega
  have hlt5' : w.heap.size < w5.heap.size + 1 := by omega
  go_wp2_with (first
    | (refine wpList_store_new rfl 45 (.tmp 13) (.tmp 38) rfl #[.int .i64 0, .slice none 0 0] rfl rfl 45 _ infoItem rfl (by simp [Value.oneCell']) ?_; intro W6 hrow6 hb6 hs6)
    | (refine wpList_load_is rfl 88 (.tmp 4) rfl w.heap.size rfl 88 #[.int .i64 x.base, .int .i64 x.term, .slice ra rs.length rc] _ ((hb6.block w.heap.size hlt5).trans HR5.out) Try.underlying88 rfl infoRLine ?_))
  have HR6 := Lib.hid ((hb6.block w.heap.size hlt5).trans HR5.out)
  have HB6 := Lib.hid (HB5.out.trans (hb6.mono (by omega)))
  have HL6 := Lib.hid (HL5.out.below hb6)
  have HROW6 := Lib.hid hrow6
  have hlt6 : w.heap.size < W6.heap.size := by omega
  have hwl6 : w5.heap.size < W6.heap.size := by omega
  clear hb6 hrow6
  refine (r17At x hg ra rc rs i _ ((HR.out.below HB6.out (Nat.le_refl _)).mono (by omega))).mono ?_
  rintro e w7 ⟨rfl, hb7⟩
  rw [HA.out]
  have hs7 := hb7.size
  have HR7 := Lib.hid ((hb7.block w.heap.size hlt6).trans HR6.out)
  have HB7 := Lib.hid (HB6.out.trans (hb7.mono (by omega)))
  have HL7 := Lib.hid (HL6.out.below hb7)
  have d0 : w7.cell? ⟨w.heap.size, 0, none⟩ = some (.int .i64 x.base) := cell_of_row w7 w.heap.size 0 _ _ _ HR7.out
  have d1 : w7.cell? ⟨w.heap.size, 1, none⟩ = some (.int .i64 x.term) := cell_of_row w7 w.heap.size 1 _ _ _ HR7.out
  have d2 : w7.cell? ⟨w.heap.size, 2, none⟩ = some (.slice ra rs.length rc) := cell_of_row w7 w.heap.size 2 _ _ _ HR7.out
  clear hb7
  go_wp2_with fail
  refine (r17Last x hg ra rs.length rc HR.out.len _).mono ?_
  rintro e w8 ⟨rfl, hb8⟩
  rw [HL.out]
  have hs8 := hb8.size
  have HR8 := Lib.hid ((hb8.block w.heap.size (by omega)).trans HR7.out)
  have HB8 := Lib.hid (HB7.out.trans (hb8.mono (by omega)))
  have HL8 := Lib.hid (HL7.out.below hb8)
  clear d0 d1 d2 hb8
  have d0 : w8.cell? ⟨w.heap.size, 0, none⟩ = some (.int .i64 x.base) := cell_of_row w8 w.heap.size 0 _ _ _ HR8.out
  have d1 : w8.cell? ⟨w.heap.size, 1, none⟩ = some (.int .i64 x.term) := cell_of_row w8 w.heap.size 1 _ _ _ HR8.out
  have d2 : w8.cell? ⟨w.heap.size, 2, none⟩ = some (.slice ra rs.length rc) := cell_of_row w8 w.heap.size 2 _ _ _ HR8.out
  go_wp2_with fail
  refine (r17At x hg ra rc rs L _ ((HR.out.below HB8.out (Nat.le_refl _)).mono (by omega))).mono ?_
  rintro e w9 ⟨rfl, hb9⟩
  rw [HAL.out]
  have hs9 := hb9.size
  have HR9 := Lib.hid ((hb9.block w.heap.size (by omega)).trans HR8.out)
  have HB9 := Lib.hid (HB8.out.trans (hb9.mono (by omega)))
  have HL9 := Lib.hid (HL8.out.below hb9)
  clear d0 d1 d2 hb9
  have HS9 := Lib.hid (show LnS w.heap.size x.base x.term ra rs.length rc w9 from ⟨cell_of_row w9 w.heap.size 0 _ _ _ HR9.out, cell_of_row w9 w.heap.size 1 _ _ _ HR9.out, cell_of_row w9 w.heap.size 2 _ _ _ HR9.out⟩)
  have hlt9 : w.heap.size < w9.heap.size := by omega
  have d0 := HS9.out.g0
  have d1 := HS9.out.g1
  have d2 := HS9.out.g2
  go_wp2_with fail
  clear d0 d1 d2
  refine wp_region_any (by kernel_rfl) ?_
  refine wpAny_of_held (S := LnS w.heap.size x.base x.term ra rs.length rc) _ _ _ _ ?_
  have hS0 : LnS w.heap.size x.base x.term ra rs.length rc w9.drew := HS9.out.keep (N := w9.heap.size) (Below.refl _ _).drew hlt9
  refine heldTake 0 80 rfl rfl (by kernel_rfl) (by kernel_rfl) (by kernel_rfl) (fun _ _ _ h => h) hS0 (.inl ⟨by rfl, by intro w' hS; obtain ⟨s1, s2, s3⟩ := hS; go_simp; (try rfl)⟩) ?_
  simp only [List.set_cons_zero, List.set_cons_succ]
  refine heldTake 1 81 rfl rfl (by kernel_rfl) (by kernel_rfl) (by kernel_rfl) (fun _ _ _ h => h) hS0 (.inl ⟨by rfl, by intro w' hS; obtain ⟨s1, s2, s3⟩ := hS; go_simp; (try rfl)⟩) ?_
  simp only [List.set_cons_zero, List.set_cons_succ]
  refine heldTake 2 82 rfl rfl (by kernel_rfl) (by kernel_rfl) (by kernel_rfl) (fun _ _ _ h => h) hS0 (.inl ⟨by rfl, by intro w' hS; obtain ⟨s1, s2, s3⟩ := hS; go_simp; (try rfl)⟩) ?_
  simp only [List.set_cons_zero, List.set_cons_succ]
  refine heldTake 3 83 rfl rfl (by kernel_rfl) (by kernel_rfl) (by kernel_rfl) (fun _ _ _ h => h) hS0 (.inl ⟨by rfl, by intro w' hS; obtain ⟨s1, s2, s3⟩ := hS; go_simp; (try rfl)⟩) ?_
  simp only [List.set_cons_zero, List.set_cons_succ]
  refine heldTake 4 84 rfl rfl (by kernel_rfl) (by kernel_rfl) (by kernel_rfl) (fun _ _ _ h => h) hS0 (.inl ⟨by rfl, by intro w' hS; obtain ⟨s1, s2, s3⟩ := hS; go_simp; (try rfl)⟩) ?_
  simp only [List.set_cons_zero, List.set_cons_succ]
  refine heldTake 5 85 rfl rfl (by kernel_rfl) (by kernel_rfl) (by kernel_rfl) (fun _ _ _ h => h) hS0 (.inl ⟨by rfl, by intro w' hS; obtain ⟨s1, s2, s3⟩ := hS; go_simp; (try rfl)⟩) ?_
  simp only [List.set_cons_zero, List.set_cons_succ]
  refine heldTake 6 86 rfl rfl (by kernel_rfl) (by kernel_rfl) (by kernel_rfl) (fun _ _ _ h => h) hS0 (.inr ⟨by rfl, rfl⟩) ?_
  simp only [List.set_cons_zero, List.set_cons_succ]
  refine heldTake 7 87 rfl rfl (by kernel_rfl) (by kernel_rfl) (by kernel_rfl) (fun _ _ _ h => h) hS0 (.inr ⟨by rfl, rfl⟩) ?_
  simp only [List.set_cons_zero, List.set_cons_succ]
  refine heldTake 8 88 rfl rfl (by kernel_rfl) (by kernel_rfl) (by kernel_rfl) (fun _ _ _ h => h) hS0 (.inr ⟨by rfl, rfl⟩) ?_
  simp only [List.set_cons_zero, List.set_cons_succ]
  refine heldTake 9 89 rfl rfl (by kernel_rfl) (by kernel_rfl) (by kernel_rfl) (fun _ _ _ h => h) hS0 (.inr ⟨by rfl, rfl⟩) ?_
  simp only [List.set_cons_zero, List.set_cons_succ]
  refine heldTake 10 90 rfl rfl (by kernel_rfl) (by kernel_rfl) (by kernel_rfl) (fun _ _ _ h => h) hS0 (.inl ⟨by rfl, by intro w' hS; obtain ⟨s1, s2, s3⟩ := hS; go_simp; (try rfl)⟩) ?_
  simp only [List.set_cons_zero, List.set_cons_succ]
  refine heldTake 11 91 rfl rfl (by kernel_rfl) (by kernel_rfl) (by kernel_rfl) (fun _ _ _ h => h) hS0 (.inl ⟨by rfl, by intro w' hS; obtain ⟨s1, s2, s3⟩ := hS; go_simp; (try rfl)⟩) ?_
  simp only [List.set_cons_zero, List.set_cons_succ]
  refine heldTake 12 92 rfl rfl (by kernel_rfl) (by kernel_rfl) (by kernel_rfl) (fun _ _ _ h => h) hS0 (.inl ⟨by rfl, by intro w' hS; obtain ⟨s1, s2, s3⟩ := hS; go_simp; (try rfl)⟩) ?_
  simp only [List.set_cons_zero, List.set_cons_succ]
  refine heldTake 13 93 rfl rfl (by kernel_rfl) (by kernel_rfl) (by kernel_rfl) (fun _ _ _ h => h) hS0 (.inl ⟨by rfl, by intro w' hS; obtain ⟨s1, s2, s3⟩ := hS; go_simp; (try rfl)⟩) ?_
  simp only [List.set_cons_zero, List.set_cons_succ]
  refine heldTake 14 94 rfl rfl (by kernel_rfl) (by kernel_rfl) (by kernel_rfl) (fun _ _ _ h => h) hS0 (.inl ⟨by rfl, by intro w' hS; obtain ⟨s1, s2, s3⟩ := hS; go_simp; (try rfl)⟩) ?_
  simp only [List.set_cons_zero, List.set_cons_succ]
  refine heldTake 15 95 rfl rfl (by kernel_rfl) (by kernel_rfl) (by kernel_rfl) (fun _ _ _ h => h) hS0 (.inr ⟨by rfl, rfl⟩) ?_
  simp only [List.set_cons_zero, List.set_cons_succ]
  refine heldTake 16 96 rfl rfl (by kernel_rfl) (by kernel_rfl) (by kernel_rfl) (fun _ _ _ h => h) hS0 (.inr ⟨by rfl, rfl⟩) ?_
  simp only [List.set_cons_zero, List.set_cons_succ]
  refine heldTake 17 97 rfl rfl (by kernel_rfl) (by kernel_rfl) (by kernel_rfl) (fun _ _ _ h => h) hS0 (.inr ⟨by rfl, rfl⟩) ?_
  simp only [List.set_cons_zero, List.set_cons_succ]
  refine heldTake 18 98 rfl rfl (by kernel_rfl) (by kernel_rfl) (by kernel_rfl) (fun _ _ _ h => h) hS0 (.inr ⟨by rfl, rfl⟩) ?_
  simp only [List.set_cons_zero, List.set_cons_succ]
  refine heldTake 19 99 rfl rfl (by kernel_rfl) (by kernel_rfl) (by kernel_rfl) (fun _ _ _ h => h) hS0 (.inr ⟨by rfl, rfl⟩) ?_
  simp only [List.set_cons_zero, List.set_cons_succ]
  refine heldTake 20 100 rfl rfl (by kernel_rfl) (by kernel_rfl) (by kernel_rfl) (fun _ _ _ h => h) hS0 (.inr ⟨by rfl, rfl⟩) ?_
  simp only [List.set_cons_zero, List.set_cons_succ]
  refine heldTake 21 101 rfl rfl (by kernel_rfl) (by kernel_rfl) (by kernel_rfl) (fun _ _ _ h => h) hS0 (.inr ⟨by rfl, rfl⟩) ?_
  simp only [List.set_cons_zero, List.set_cons_succ]
  refine heldTake 22 102 rfl rfl (by kernel_rfl) (by kernel_rfl) (by kernel_rfl) (fun _ _ _ h => h) hS0 (.inl ⟨by rfl, by intro w' hS; obtain ⟨s1, s2, s3⟩ := hS; go_simp; (try rfl)⟩) ?_
  simp only [List.set_cons_zero, List.set_cons_succ]
  refine heldTake 23 103 rfl rfl (by kernel_rfl) (by kernel_rfl) (by kernel_rfl) (fun _ _ _ h => h) hS0 (.inl ⟨by rfl, by intro w' hS; obtain ⟨s1, s2, s3⟩ := hS; go_simp; (try rfl)⟩) ?_
  simp only [List.set_cons_zero, List.set_cons_succ]
  refine wpAnyH_done (by kernel_rfl) ?_ _
  clear hS0
  obtain ⟨V9, hV9⟩ : ∃ V9, V9 = w9.drew := ⟨_, rfl⟩
  refine (show Exit.then _ _ _ _ w9.drew from ?_)
  rw [← hV9]
  have hb9 : Below w9.heap.size w9 V9 := by rw [hV9]; exact (Below.refl _ _).drew
  have hs9' := hb9.size
  have HSV9 := Lib.hid (HS9.out.keep hb9 hlt9)
  have HBV9 := Lib.hid (HB9.out.trans (hb9.mono (by omega)))
  have HLV9 := Lib.hid (HL9.out.below hb9)
  clear hV9 hb9
  go_wp2_with fail
  have wB : IntKind.i64.wrap (x.base + 1) = x.base + 1 := IntWalk.i64_in _ (by omega)
  refine wp_region_any (by kernel_rfl) ?_
  refine wpAny_of_held (S := LnS w.heap.size x.base x.term ra rs.length rc) _ _ _ _ ?_
  have hS0 : LnS w.heap.size x.base x.term ra rs.length rc V9.drew := HSV9.out.keep (N := V9.heap.size) (Below.refl _ _).drew (by omega)
  refine heldTake 0 104 rfl rfl (by kernel_rfl) (by kernel_rfl) (by kernel_rfl) (fun _ _ _ h => h) hS0 (.inl ⟨by rfl, by intro w' hS; obtain ⟨s1, s2, s3⟩ := hS; go_simp; (try rfl)⟩) ?_
  simp only [List.set_cons_zero, List.set_cons_succ]
  refine heldTake 1 105 rfl rfl (by kernel_rfl) (by kernel_rfl) (by kernel_rfl) (fun _ _ _ h => h) hS0 (.inl ⟨by rfl, by intro w' hS; obtain ⟨s1, s2, s3⟩ := hS; go_simp; (try rfl)⟩) ?_
  simp only [List.set_cons_zero, List.set_cons_succ]
  refine heldTake 2 106 rfl rfl (by kernel_rfl) (by kernel_rfl) (by kernel_rfl) (fun _ _ _ h => h) hS0 (.inl ⟨by rfl, by intro w' hS; obtain ⟨s1, s2, s3⟩ := hS; go_simp; (try rfl)⟩) ?_
  simp only [List.set_cons_zero, List.set_cons_succ]
  refine heldTake 4 108 rfl rfl (by kernel_rfl) (by kernel_rfl) (by kernel_rfl) (fun _ _ _ h => h) hS0 (.inl ⟨by rfl, by intro w' hS; obtain ⟨s1, s2, s3⟩ := hS; go_simp; (try rfl)⟩) ?_
  simp only [List.set_cons_zero, List.set_cons_succ]
  refine heldTake 5 109 rfl rfl (by kernel_rfl) (by kernel_rfl) (by kernel_rfl) (fun _ _ _ h => h) hS0 (.inl ⟨by rfl, by intro w' hS; obtain ⟨s1, s2, s3⟩ := hS; go_simp; (try rfl)⟩) ?_
  simp only [List.set_cons_zero, List.set_cons_succ]
  refine heldOne 3 (by kernel_rfl) rfl (by rfl) ?_
  go_simp
  have hVd : Below V9.heap.size V9 V9.drew := (Below.refl _ _).drew
  refine (lineFromA base p x hg la lc ms (x.base + 1) 5000 _ (HLV9.out.below hVd)).mono ?_
  rintro e w10 ⟨a10, c10, ms10, rfl, ho10, hi10, hb10⟩
  rw [hg.from_all] at hi10
  have hb10' : Below V9.heap.size V9 w10 := hVd.trans hb10
  have hs10 := hb10'.size
  have hS10 := HSV9.out.keep hb10' (by omega)
  have HB10 := Lib.hid (HBV9.out.trans (hb10'.mono (by omega)))
  have HO10 := Lib.hid ho10
  have HI10 := Lib.hid hi10
  have hl10 : ms10.length ≤ 1000000 := by
    have h9 := congrArg List.length HI10.out
    have h8 := hg.n1
    simp at h9
    omega
  refine ⟨hS10, ?_⟩
  clear ho10 hi10 hb10 hb10' hVd hS0
  refine heldOne 6 (by kernel_rfl) rfl (by rfl) ?_
  go_simp
  refine (r17Same ms10 rs a10 ra _ c10 _ rc hl10 _ HO10.out.at ((HR.out.its.below HB10.out (Nat.le_refl _)).mono (by omega))).mono ?_
  rintro e w11 ⟨rfl, hb11⟩
  rw [show decide (ms10.map MItem.it = rs.map MItem.it) = true from decide_eq_true (HI10.out.trans HR.out.eq.symm)]
  have hS11 := hS10.keep hb11 (by omega)
  have HB11 := Lib.hid (HB10.out.trans (hb11.mono (by omega)))
  refine ⟨hS11, ?_⟩
  clear hb11 hS10
  refine heldTake 7 6 rfl rfl (by kernel_rfl) (by kernel_rfl) (by kernel_rfl) (fun _ _ _ h => h) hS11 (.inl ⟨by rfl, by intro w' hS; obtain ⟨s1, s2, s3⟩ := hS; go_simp; (try rfl)⟩) ?_
  simp only [List.set_cons_zero, List.set_cons_succ]
  refine wpAnyH_done (by kernel_rfl) ?_ _
  clear hS11
  go_wp2
  go_ret
  exact ⟨rfl, HB11.out⟩
end Go.Proofs.Ytogcnfhmcpkdcaa

namespace Go.Proofs.Ytogcnfhmcpkdcaa
open Go.RowKit
set_option linter.unusedVariables false
set_option linter.unusedSimpArgs false

set_option maxRecDepth 100000 in
set_option maxHeartbeats 1000000 in
theorem l17is_high (base p : Nat) (x : PLine) (hg : x.Good) (la : Option Addr) (lc : Nat) (ms : List MItem) (ra : Option Addr) (rc : Nat) (rs : List MItem) (i : Int) (w : World) (h : LnAt w base p x la lc ms) (hr : RAt w w.heap.size x ra rc rs) (hlo : x.last < i) :
    Calls Try.prog 59 #[.pointer (some ⟨p, 0, none⟩), rv x ra rs.length rc, .int .i64 i] w fun e w' => e = .returned (.bool true) ∧ Below w.heap.size w w' := by
  have hpl := h.lt
  have h1 := hg.b0
  have h2 := hg.b1
  have hlb : x.base ≤ x.last := by show x.base ≤ x.base + _; omega
  have hT : tmIs x i = (0, false) := by rw [tmIs, if_neg (by rw [hg.tm_ge]; omega)]
  have hA : x.tm i = -1 := by rw [PLine.tm, if_neg (by omega), if_pos (.inr hlo)]
  obtain ⟨lt, hlt⟩ : ∃ lt, (tmIs x x.last).1 = lt := ⟨_, rfl⟩
  obtain ⟨L, hL⟩ : ∃ L, x.last = L := ⟨_, rfl⟩
  rw [hL] at hlt
  have hAL : x.tm L = lt := by
    rw [← hlt, ← hL, tmIs]
    have h9 : 0 ≤ x.tm x.last := by rw [hg.tm_ge]; exact ⟨by show x.base ≤ x.base + _; omega, by omega⟩
    rw [if_pos h9]
  have HT := Lib.hid hT
  have HA := Lib.hid hA
  have HLT := Lib.hid hlt
  have HL := Lib.hid hL
  have HAL := Lib.hid hAL
  obtain ⟨W1, hW1⟩ : ∃ W1, W1 = w.alloc (.cells #[.int .i64 x.base, .int .i64 x.term, .slice ra rs.length rc] 88) := ⟨_, rfl⟩
  have hs1 : W1.heap.size = w.heap.size + 1 := by rw [hW1]; simp
  have hbW : Below w.heap.size w W1 := by rw [hW1]; exact (Below.refl _ w).alloc (Nat.le_refl _) _
  have hr0 : W1.heap[w.heap.size]? = some (.cells #[.int .i64 x.base, .int .i64 x.term, .slice ra rs.length rc] 88 (0, 0)) := by rw [hW1]; exact heap_alloc_new w _
  have HW1 := Lib.hid hW1
  have HBW := Lib.hid hbW
  have HR0 := Lib.hid hr0
  have HH := Lib.hid (h.below hbW)
  have HR := Lib.hid hr
  have t0 : decide (x.base < i) = true := by simp; omega
  have t1 : decide (i ≤ L) = false := by simp; omega
  clear h hr hT hA hlt hL hAL hW1 hbW hr0 hlo hlb
  go_enter Try.func59, Try.ntmps59
  go_wp2_with fail
  rw [← HW1.out]
  refine (lineBase base p x la lc ms _ HH.out).mono ?_
  rintro e w2 ⟨rfl, m2, rfl⟩
  go_wp2_with fail
  refine (lineLast base p x hg la lc ms _ (HH.out.drewN m2)).mono ?_
  rintro e w3 ⟨rfl, m3, rfl⟩
  rw [HL.out, HLT.out, World.drewN_drewN]
  go_wp2_with fail
  refine (lineTerm base p x hg la lc ms i _ (HH.out.drewN (m2 + m3))).mono ?_
  rintro e w4 ⟨rfl, m4, rfl⟩
  rw [HT.out, World.drewN_drewN]
  go_wp2_with fail
  obtain ⟨V, hV⟩ : ∃ V, V = W1.drewN (m2 + m3 + m4) := ⟨_, rfl⟩
  rw [← hV]
  have HLV := Lib.hid (show LnAt V base p x la lc ms by rw [hV]; exact HH.out.drewN _)
  have hsV : V.heap.size = w.heap.size + 1 := by rw [hV]; exact hs1
  have HRV := Lib.hid (show V.heap[w.heap.size]? = some (.cells #[.int .i64 x.base, .int .i64 x.term, .slice ra rs.length rc] 88 (0, 0)) by rw [hV]; exact HR0.out)
  have HBV := Lib.hid (show Below w.heap.size w V by rw [hV]; exact HBW.out.trans ((below_drewN W1 _).mono (by omega)))
  clear hV
  refine (lineItem base p x hg la lc ms i _ HLV.out).mono ?_
  intro e w5 hit
  unfold ItemTo at hit
  rw [if_neg (by intro h9; have := of_decide_eq_false t1; rw [HL.out] at h9; exact this h9.2)] at hit
  obtain ⟨rfl, hb5⟩ := hit
  have hs5 := hb5.size
  have HR5 := Lib.hid ((hb5.block w.heap.size (by omega)).trans HRV.out)
  have HB5 := Lib.hid (HBV.out.trans (hb5.mono (by omega)))
  have HL5 := Lib.hid (HLV.out.below hb5)
  clear hb5
  have hlt5 : w.heap.size < w5.heap.size := by omega
  have hlt5' : w.heap.size < w5.heap.size + 1 := by omega
  go_wp2_with (first
    | (refine wpList_store_new rfl 45 (.tmp 13) (.tmp 38) rfl #[.int .i64 0, .slice none 0 0] rfl rfl 45 _ infoItem rfl (by simp [Value.oneCell']) ?_; intro W6 hrow6 hb6 hs6)
    | (refine wpList_load_is rfl 88 (.tmp 4) rfl w.heap.size rfl 88 #[.int .i64 x.base, .int .i64 x.term, .slice ra rs.length rc] _ ((hb6.block w.heap.size hlt5).trans HR5.out) Try.underlying88 rfl infoRLine ?_))
  have HR6 := Lib.hid ((hb6.block w.heap.size hlt5).trans HR5.out)
  have HB6 := Lib.hid (HB5.out.trans (hb6.mono (by omega)))
  have HL6 := Lib.hid (HL5.out.below hb6)
  have HROW6 := Lib.hid hrow6
  have hlt6 : w.heap.size < W6.heap.size := by omega
  have hwl6 : w5.heap.size < W6.heap.size := by omega
  clear hb6 hrow6
  refine (r17At x hg ra rc rs i _ ((HR.out.below HB6.out (Nat.le_refl _)).mono (by omega))).mono ?_
  rintro e w7 ⟨rfl, hb7⟩
  rw [HA.out]
  have hs7 := hb7.size
  have HR7 := Lib.hid ((hb7.block w.heap.size hlt6).trans HR6.out)
  have HB7 := Lib.hid (HB6.out.trans (hb7.mono (by omega)))
  have HL7 := Lib.hid (HL6.out.below hb7)
  have d0 : w7.cell? ⟨w.heap.size, 0, none⟩ = some (.int .i64 x.base) := cell_of_row w7 w.heap.size 0 _ _ _ HR7.out
  have d1 : w7.cell? ⟨w.heap.size, 1, none⟩ = some (.int .i64 x.term) := cell_of_row w7 w.heap.size 1 _ _ _ HR7.out
  have d2 : w7.cell? ⟨w.heap.size, 2, none⟩ = some (.slice ra rs.length rc) := cell_of_row w7 w.heap.size 2 _ _ _ HR7.out
  clear hb7
  go_wp2_with fail
  refine (r17Last x hg ra rs.length rc HR.out.len _).mono ?_
  rintro e w8 ⟨rfl, hb8⟩
  rw [HL.out]
  have hs8 := hb8.size
  have HR8 := Lib.hid ((hb8.block w.heap.size (by omega)).trans HR7.out)
  have HB8 := Lib.hid (HB7.out.trans (hb8.mono (by omega)))
  have HL8 := Lib.hid (HL7.out.below hb8)
  clear d0 d1 d2 hb8
  have d0 : w8.cell? ⟨w.heap.size, 0, none⟩ = some (.int .i64 x.base) := cell_of_row w8 w.heap.size 0 _ _ _ HR8.out
  have d1 : w8.cell? ⟨w.heap.size, 1, none⟩ = some (.int .i64 x.term) := cell_of_row w8 w.heap.size 1 _ _ _ HR8.out
  have d2 : w8.cell? ⟨w.heap.size, 2, none⟩ = some (.slice ra rs.length rc) := cell_of_row w8 w.heap.size 2 _ _ _ HR8.out
  go_wp2_with fail
  refine (r17At x hg ra rc rs L _ ((HR.out.below HB8.out (Nat.le_refl _)).mono (by omega))).mono ?_
  rintro e w9 ⟨rfl, hb9⟩
  rw [HAL.out]
  have hs9 := hb9.size
  have HR9 := Lib.hid ((hb9.block w.heap.size (by omega)).trans HR8.out)
  have HB9 := Lib.hid (HB8.out.trans (hb9.mono (by omega)))
  have HL9 := Lib.hid (HL8.out.below hb9)
  clear d0 d1 d2 hb9
  have HS9 := Lib.hid (show LnS w.heap.size x.base x.term ra rs.length rc w9 from ⟨cell_of_row w9 w.heap.size 0 _ _ _ HR9.out, cell_of_row w9 w.heap.size 1 _ _ _ HR9.out, cell_of_row w9 w.heap.size 2 _ _ _ HR9.out⟩)
  have hlt9 : w.heap.size < w9.heap.size := by omega
  have d0 := HS9.out.g0
  have d1 := HS9.out.g1
  have d2 := HS9.out.g2
  go_wp2_with fail
  clear d0 d1 d2
  refine wp_region_any (by kernel_rfl) ?_
  refine wpAny_of_held (S := LnS w.heap.size x.base x.term ra rs.length rc) _ _ _ _ ?_
  have hS0 : LnS w.heap.size x.base x.term ra rs.length rc w9.drew := HS9.out.keep (N := w9.heap.size) (Below.refl _ _).drew hlt9
  refine heldTake 0 80 rfl rfl (by kernel_rfl) (by kernel_rfl) (by kernel_rfl) (fun _ _ _ h => h) hS0 (.inl ⟨by rfl, by intro w' hS; obtain ⟨s1, s2, s3⟩ := hS; go_simp; (try rfl)⟩) ?_
  simp only [List.set_cons_zero, List.set_cons_succ]
  refine heldTake 1 81 rfl rfl (by kernel_rfl) (by kernel_rfl) (by kernel_rfl) (fun _ _ _ h => h) hS0 (.inl ⟨by rfl, by intro w' hS; obtain ⟨s1, s2, s3⟩ := hS; go_simp; (try rfl)⟩) ?_
  simp only [List.set_cons_zero, List.set_cons_succ]
  refine heldTake 2 82 rfl rfl (by kernel_rfl) (by kernel_rfl) (by kernel_rfl) (fun _ _ _ h => h) hS0 (.inl ⟨by rfl, by intro w' hS; obtain ⟨s1, s2, s3⟩ := hS; go_simp; (try rfl)⟩) ?_
  simp only [List.set_cons_zero, List.set_cons_succ]
  refine heldTake 3 83 rfl rfl (by kernel_rfl) (by kernel_rfl) (by kernel_rfl) (fun _ _ _ h => h) hS0 (.inl ⟨by rfl, by intro w' hS; obtain ⟨s1, s2, s3⟩ := hS; go_simp; (try rfl)⟩) ?_
  simp only [List.set_cons_zero, List.set_cons_succ]
  refine heldTake 4 84 rfl rfl (by kernel_rfl) (by kernel_rfl) (by kernel_rfl) (fun _ _ _ h => h) hS0 (.inl ⟨by rfl, by intro w' hS; obtain ⟨s1, s2, s3⟩ := hS; go_simp; (try rfl)⟩) ?_
  simp only [List.set_cons_zero, List.set_cons_succ]
  refine heldTake 5 85 rfl rfl (by kernel_rfl) (by kernel_rfl) (by kernel_rfl) (fun _ _ _ h => h) hS0 (.inl ⟨by rfl, by intro w' hS; obtain ⟨s1, s2, s3⟩ := hS; go_simp; (try rfl)⟩) ?_
  simp only [List.set_cons_zero, List.set_cons_succ]
  refine heldTake 6 86 rfl rfl (by kernel_rfl) (by kernel_rfl) (by kernel_rfl) (fun _ _ _ h => h) hS0 (.inl ⟨by rfl, by intro w' hS; obtain ⟨s1, s2, s3⟩ := hS; go_simp; (try rfl)⟩) ?_
  simp only [List.set_cons_zero, List.set_cons_succ]
  refine heldTake 7 87 rfl rfl (by kernel_rfl) (by kernel_rfl) (by kernel_rfl) (fun _ _ _ h => h) hS0 (.inl ⟨by rfl, by intro w' hS; obtain ⟨s1, s2, s3⟩ := hS; go_simp; (try rfl)⟩) ?_
  simp only [List.set_cons_zero, List.set_cons_succ]
  refine heldOne 8 (by kernel_rfl) rfl (by rfl) ?_
  go_simp
  refine (r17Last x hg ra rs.length rc HR.out.len _).mono ?_
  rintro e V9 ⟨rfl, hbq⟩
  rw [HL.out]
  have hb9 : Below w9.heap.size w9 V9 := (show Below w9.heap.size w9 w9.drew from (Below.refl _ _).drew).trans hbq
  have hSq := HS9.out.keep hb9 hlt9
  refine ⟨hSq, ?_⟩
  clear hS0 hbq
  refine heldTake 9 89 rfl rfl (by kernel_rfl) (by kernel_rfl) (by kernel_rfl) (fun _ _ _ h => h) hSq (.inl ⟨by rfl, by intro w' hS; obtain ⟨s1, s2, s3⟩ := hS; go_simp; (try rfl)⟩) ?_
  simp only [List.set_cons_zero, List.set_cons_succ]
  refine heldTake 10 90 rfl rfl (by kernel_rfl) (by kernel_rfl) (by kernel_rfl) (fun _ _ _ h => h) hSq (.inl ⟨by rfl, by intro w' hS; obtain ⟨s1, s2, s3⟩ := hS; go_simp; (try rfl)⟩) ?_
  simp only [List.set_cons_zero, List.set_cons_succ]
  refine heldTake 11 91 rfl rfl (by kernel_rfl) (by kernel_rfl) (by kernel_rfl) (fun _ _ _ h => h) hSq (.inl ⟨by rfl, by intro w' hS; obtain ⟨s1, s2, s3⟩ := hS; go_simp; (try rfl)⟩) ?_
  simp only [List.set_cons_zero, List.set_cons_succ]
  refine heldTake 12 92 rfl rfl (by kernel_rfl) (by kernel_rfl) (by kernel_rfl) (fun _ _ _ h => h) hSq (.inl ⟨by rfl, by intro w' hS; obtain ⟨s1, s2, s3⟩ := hS; go_simp; (try rfl)⟩) ?_
  simp only [List.set_cons_zero, List.set_cons_succ]
  refine heldTake 13 93 rfl rfl (by kernel_rfl) (by kernel_rfl) (by kernel_rfl) (fun _ _ _ h => h) hSq (.inl ⟨by rfl, by intro w' hS; obtain ⟨s1, s2, s3⟩ := hS; go_simp; (try rfl)⟩) ?_
  simp only [List.set_cons_zero, List.set_cons_succ]
  refine heldTake 14 94 rfl rfl (by kernel_rfl) (by kernel_rfl) (by kernel_rfl) (fun _ _ _ h => h) hSq (.inl ⟨by rfl, by intro w' hS; obtain ⟨s1, s2, s3⟩ := hS; go_simp; (try rfl)⟩) ?_
  simp only [List.set_cons_zero, List.set_cons_succ]
  refine heldTake 15 95 rfl rfl (by kernel_rfl) (by kernel_rfl) (by kernel_rfl) (fun _ _ _ h => h) hSq (.inr ⟨by rfl, rfl⟩) ?_
  simp only [List.set_cons_zero, List.set_cons_succ]
  refine heldTake 16 96 rfl rfl (by kernel_rfl) (by kernel_rfl) (by kernel_rfl) (fun _ _ _ h => h) hSq (.inr ⟨by rfl, rfl⟩) ?_
  simp only [List.set_cons_zero, List.set_cons_succ]
  refine heldTake 17 97 rfl rfl (by kernel_rfl) (by kernel_rfl) (by kernel_rfl) (fun _ _ _ h => h) hSq (.inr ⟨by rfl, rfl⟩) ?_
  simp only [List.set_cons_zero, List.set_cons_succ]
  refine heldTake 18 98 rfl rfl (by kernel_rfl) (by kernel_rfl) (by kernel_rfl) (fun _ _ _ h => h) hSq (.inr ⟨by rfl, rfl⟩) ?_
  simp only [List.set_cons_zero, List.set_cons_succ]
  refine heldTake 19 99 rfl rfl (by kernel_rfl) (by kernel_rfl) (by kernel_rfl) (fun _ _ _ h => h) hSq (.inr ⟨by rfl, rfl⟩) ?_
  simp only [List.set_cons_zero, List.set_cons_succ]
  refine heldTake 20 100 rfl rfl (by kernel_rfl) (by kernel_rfl) (by kernel_rfl) (fun _ _ _ h => h) hSq (.inr ⟨by rfl, rfl⟩) ?_
  simp only [List.set_cons_zero, List.set_cons_succ]
  refine heldTake 21 101 rfl rfl (by kernel_rfl) (by kernel_rfl) (by kernel_rfl) (fun _ _ _ h => h) hSq (.inr ⟨by rfl, rfl⟩) ?_
  simp only [List.set_cons_zero, List.set_cons_succ]
  refine heldTake 22 102 rfl rfl (by kernel_rfl) (by kernel_rfl) (by kernel_rfl) (fun _ _ _ h => h) hSq (.inl ⟨by rfl, by intro w' hS; obtain ⟨s1, s2, s3⟩ := hS; go_simp; (try rfl)⟩) ?_
  simp only [List.set_cons_zero, List.set_cons_succ]
  refine heldTake 23 103 rfl rfl (by kernel_rfl) (by kernel_rfl) (by kernel_rfl) (fun _ _ _ h => h) hSq (.inl ⟨by rfl, by intro w' hS; obtain ⟨s1, s2, s3⟩ := hS; go_simp; (try rfl)⟩) ?_
  simp only [List.set_cons_zero, List.set_cons_succ]
  refine wpAnyH_done (by kernel_rfl) ?_ _
  clear hSq
  have hs9' := hb9.size
  have HSV9 := Lib.hid (HS9.out.keep hb9 hlt9)
  have HBV9 := Lib.hid (HB9.out.trans (hb9.mono (by omega)))
  have HLV9 := Lib.hid (HL9.out.below hb9)
  clear hb9
  go_wp2_with fail
  have wB : IntKind.i64.wrap (x.base + 1) = x.base + 1 := IntWalk.i64_in _ (by omega)
  refine wp_region_any (by kernel_rfl) ?_
  refine wpAny_of_held (S := LnS w.heap.size x.base x.term ra rs.length rc) _ _ _ _ ?_
  have hS0 : LnS w.heap.size x.base x.term ra rs.length rc V9.drew := HSV9.out.keep (N := V9.heap.size) (Below.refl _ _).drew (by omega)
  refine heldTake 0 104 rfl rfl (by kernel_rfl) (by kernel_rfl) (by kernel_rfl) (fun _ _ _ h => h) hS0 (.inl ⟨by rfl, by intro w' hS; obtain ⟨s1, s2, s3⟩ := hS; go_simp; (try rfl)⟩) ?_
  simp only [List.set_cons_zero, List.set_cons_succ]
  refine heldTake 1 105 rfl rfl (by kernel_rfl) (by kernel_rfl) (by kernel_rfl) (fun _ _ _ h => h) hS0 (.inl ⟨by rfl, by intro w' hS; obtain ⟨s1, s2, s3⟩ := hS; go_simp; (try rfl)⟩) ?_
  simp only [List.set_cons_zero, List.set_cons_succ]
  refine heldTake 2 106 rfl rfl (by kernel_rfl) (by kernel_rfl) (by kernel_rfl) (fun _ _ _ h => h) hS0 (.inl ⟨by rfl, by intro w' hS; obtain ⟨s1, s2, s3⟩ := hS; go_simp; (try rfl)⟩) ?_
  simp only [List.set_cons_zero, List.set_cons_succ]
  refine heldTake 4 108 rfl rfl (by kernel_rfl) (by kernel_rfl) (by kernel_rfl) (fun _ _ _ h => h) hS0 (.inl ⟨by rfl, by intro w' hS; obtain ⟨s1, s2, s3⟩ := hS; go_simp; (try rfl)⟩) ?_
  simp only [List.set_cons_zero, List.set_cons_succ]
  refine heldTake 5 109 rfl rfl (by kernel_rfl) (by kernel_rfl) (by kernel_rfl) (fun _ _ _ h => h) hS0 (.inl ⟨by rfl, by intro w' hS; obtain ⟨s1, s2, s3⟩ := hS; go_simp; (try rfl)⟩) ?_
  simp only [List.set_cons_zero, List.set_cons_succ]
  refine heldOne 3 (by kernel_rfl) rfl (by rfl) ?_
  go_simp
  have hVd : Below V9.heap.size V9 V9.drew := (Below.refl _ _).drew
  refine (lineFromA base p x hg la lc ms (x.base + 1) 5000 _ (HLV9.out.below hVd)).mono ?_
  rintro e w10 ⟨a10, c10, ms10, rfl, ho10, hi10, hb10⟩
  rw [hg.from_all] at hi10
  have hb10' : Below V9.heap.size V9 w10 := hVd.trans hb10
  have hs10 := hb10'.size
  have hS10 := HSV9.out.keep hb10' (by omega)
  have HB10 := Lib.hid (HBV9.out.trans (hb10'.mono (by omega)))
  have HO10 := Lib.hid ho10
  have HI10 := Lib.hid hi10
  have hl10 : ms10.length ≤ 1000000 := by
    have h9 := congrArg List.length HI10.out
    have h8 := hg.n1
    simp at h9
    omega
  refine ⟨hS10, ?_⟩
  clear ho10 hi10 hb10 hb10' hVd hS0
  refine heldOne 6 (by kernel_rfl) rfl (by rfl) ?_
  go_simp
  refine (r17Same ms10 rs a10 ra _ c10 _ rc hl10 _ HO10.out.at ((HR.out.its.below HB10.out (Nat.le_refl _)).mono (by omega))).mono ?_
  rintro e w11 ⟨rfl, hb11⟩
  rw [show decide (ms10.map MItem.it = rs.map MItem.it) = true from decide_eq_true (HI10.out.trans HR.out.eq.symm)]
  have hS11 := hS10.keep hb11 (by omega)
  have HB11 := Lib.hid (HB10.out.trans (hb11.mono (by omega)))
  refine ⟨hS11, ?_⟩
  clear hb11 hS10
  refine heldTake 7 6 rfl rfl (by kernel_rfl) (by kernel_rfl) (by kernel_rfl) (fun _ _ _ h => h) hS11 (.inl ⟨by rfl, by intro w' hS; obtain ⟨s1, s2, s3⟩ := hS; go_simp; (try rfl)⟩) ?_
  simp only [List.set_cons_zero, List.set_cons_succ]
  refine wpAnyH_done (by kernel_rfl) ?_ _
  clear hS11
  go_wp2
  go_ret
  exact ⟨rfl, HB11.out⟩
end Go.Proofs.Ytogcnfhmcpkdcaa

namespace Go.Proofs.Ytogcnfhmcpkdcaa
open Go.RowKit
set_option linter.unusedVariables false
set_option linter.unusedSimpArgs false

/-- what region 10 reads -/
structure IsS (g g' : Nat) (b t : Int) (la : Option Addr) (n lc : Nat) (it : PItem) (ia : Option Addr) (ic : Nat) (w' : World) : Prop where
  g0 : w'.cell? ⟨g, 0, none⟩ = some (.int .i64 b)
  g1 : w'.cell? ⟨g, 1, none⟩ = some (.int .i64 t)
  g2 : w'.cell? ⟨g, 2, none⟩ = some (.slice la n lc)
  k0 : w'.cell? ⟨g', 0, none⟩ = some (.int .i64 it.1)
  k1 : w'.cell? ⟨g', 1, none⟩ = some (.slice ia it.2.length ic)
theorem IsS.keep {g g' : Nat} {b t : Int} {la : Option Addr} {n lc : Nat} {it : PItem} {ia : Option Addr} {ic : Nat} {w w' : World} (h : IsS g g' b t la n lc it ia ic w) {N : Nat} (hb : Below N w w') (hp : g < N) (hp' : g' < N) : IsS g g' b t la n lc it ia ic w' :=
  ⟨(hb.cell (p := ⟨g, _, none⟩) hp).trans h.g0, (hb.cell (p := ⟨g, _, none⟩) hp).trans h.g1, (hb.cell (p := ⟨g, _, none⟩) hp).trans h.g2, (hb.cell (p := ⟨g', _, none⟩) hp').trans h.k0, (hb.cell (p := ⟨g', _, none⟩) hp').trans h.k1⟩

set_option maxRecDepth 100000 in
set_option maxHeartbeats 1000000 in
theorem l17is_in (base p : Nat) (x : PLine) (hg : x.Good) (la : Option Addr) (lc : Nat) (ms : List MItem) (ra : Option Addr) (rc : Nat) (rs : List MItem) (i : Int) (w : World) (h : LnAt w base p x la lc ms) (hr : RAt w w.heap.size x ra rc rs) (hlo : x.base < i ∧ i ≤ x.last) :
    Calls Try.prog 59 #[.pointer (some ⟨p, 0, none⟩), rv x ra rs.length rc, .int .i64 i] w fun e w' => e = .returned (.bool true) ∧ Below w.heap.size w w' := by
  have hpl := h.lt
  have h1 := hg.b0
  have h2 := hg.b1
  have hv0 : 0 ≤ x.tm i := by rw [hg.tm_ge]; omega
  obtain ⟨v, hA⟩ : ∃ v, x.tm i = v := ⟨_, rfl⟩
  have hT : tmIs x i = (v, true) := by rw [tmIs, if_pos hv0, hA]
  rw [hA] at hv0
  obtain ⟨it, hit0⟩ : ∃ it, x.l.getD (i - x.base - 1).toNat (0, []) = it := ⟨_, rfl⟩
  have HIT0 := Lib.hid hit0
  have hfo : x.from_ i 1 = [it] := by rw [PLine.from_one hlo.1 hlo.2, hit0]
  have HFO := Lib.hid hfo
  have HLO := Lib.hid hlo
  obtain ⟨lt, hlt⟩ : ∃ lt, (tmIs x x.last).1 = lt := ⟨_, rfl⟩
  obtain ⟨L, hL⟩ : ∃ L, x.last = L := ⟨_, rfl⟩
  rw [hL] at hlt
  have hAL : x.tm L = lt := by
    rw [← hlt, ← hL, tmIs]
    have h9 : 0 ≤ x.tm x.last := by rw [hg.tm_ge]; exact ⟨by show x.base ≤ x.base + _; omega, by omega⟩
    rw [if_pos h9]
  have HT := Lib.hid hT
  have HA := Lib.hid hA
  have HLT := Lib.hid hlt
  have HL := Lib.hid hL
  have HAL := Lib.hid hAL
  obtain ⟨W1, hW1⟩ : ∃ W1, W1 = w.alloc (.cells #[.int .i64 x.base, .int .i64 x.term, .slice ra rs.length rc] 88) := ⟨_, rfl⟩
  have hs1 : W1.heap.size = w.heap.size + 1 := by rw [hW1]; simp
  have hbW : Below w.heap.size w W1 := by rw [hW1]; exact (Below.refl _ w).alloc (Nat.le_refl _) _
  have hr0 : W1.heap[w.heap.size]? = some (.cells #[.int .i64 x.base, .int .i64 x.term, .slice ra rs.length rc] 88 (0, 0)) := by rw [hW1]; exact heap_alloc_new w _
  have HW1 := Lib.hid hW1
  have HBW := Lib.hid hbW
  have HR0 := Lib.hid hr0
  have HH := Lib.hid (h.below hbW)
  have HR := Lib.hid hr
  have t0 : decide (x.base < i) = true := by simp; omega
  have t1 : decide (i ≤ L) = true := by simp; omega
  have t2 : decide (0 ≤ v) = true := by simpa using hv0
  clear h hr hT hA hlt hL hAL hW1 hbW hr0 hlo hit0 hfo
  go_enter Try.func59, Try.ntmps59
  go_wp2_with fail
  rw [← HW1.out]
  refine (lineBase base p x la lc ms _ HH.out).mono ?_
  rintro e w2 ⟨rfl, m2, rfl⟩
  go_wp2_with fail
  refine (lineLast base p x hg la lc ms _ (HH.out.drewN m2)).mono ?_
  rintro e w3 ⟨rfl, m3, rfl⟩
  rw [HL.out, HLT.out, World.drewN_drewN]
  go_wp2_with fail
  refine (lineTerm base p x hg la lc ms i _ (HH.out.drewN (m2 + m3))).mono ?_
  rintro e w4 ⟨rfl, m4, rfl⟩
  rw [HT.out, World.drewN_drewN]
  go_wp2_with fail
  obtain ⟨V, hV⟩ : ∃ V, V = W1.drewN (m2 + m3 + m4) := ⟨_, rfl⟩
  rw [← hV]
  have HLV := Lib.hid (show LnAt V base p x la lc ms by rw [hV]; exact HH.out.drewN _)
  have hsV : V.heap.size = w.heap.size + 1 := by rw [hV]; exact hs1
  have HRV := Lib.hid (show V.heap[w.heap.size]? = some (.cells #[.int .i64 x.base, .int .i64 x.term, .slice ra rs.length rc] 88 (0, 0)) by rw [hV]; exact HR0.out)
  have HBV := Lib.hid (show Below w.heap.size w V by rw [hV]; exact HBW.out.trans ((below_drewN W1 _).mono (by omega)))
  clear hV
  refine (lineItem base p x hg la lc ms i _ HLV.out).mono ?_
  intro e w5 hit
  unfold ItemTo at hit
  rw [if_pos HLO.out, HIT0.out] at hit
  obtain ⟨ia, ic, rfl, hbs5, hb5⟩ := hit
  have hs5 := hb5.size
  have HR5 := Lib.hid ((hb5.block w.heap.size (by omega)).trans HRV.out)
  have HB5 := Lib.hid (HBV.out.trans (hb5.mono (by omega)))
  have HL5 := Lib.hid (HLV.out.below hb5)
  clear hb5
  have hlt5 : w.heap.size < w5.heap.size := by omega
  have hlt5' : w.heap.size < w5.heap.size + 1 := by omega
  go_wp2_with (first
    | (refine wpList_store_new rfl 45 (.tmp 13) (.tmp 38) rfl #[.int .i64 it.1, .slice ia it.2.length ic] rfl rfl 45 _ infoItem rfl (by simp [Value.oneCell']) ?_; intro W6 hrow6 hb6 hs6)
    | (refine wpList_load_is rfl 88 (.tmp 4) rfl w.heap.size rfl 88 #[.int .i64 x.base, .int .i64 x.term, .slice ra rs.length rc] _ ((hb6.block w.heap.size hlt5).trans HR5.out) Try.underlying88 rfl infoRLine ?_))
  have HR6 := Lib.hid ((hb6.block w.heap.size hlt5).trans HR5.out)
  have HB6 := Lib.hid (HB5.out.trans (hb6.mono (by omega)))
  have HL6 := Lib.hid (HL5.out.below hb6)
  have HROW6 := Lib.hid hrow6
  have HBS6 := Lib.hid ((hbs5.below hb6 (Nat.le_refl _)).mono (show w5.heap.size ≤ W6.heap.size by omega))
  have hlt6 : w.heap.size < W6.heap.size := by omega
  have hwl6 : w5.heap.size < W6.heap.size := by omega
  clear hb6 hrow6 hbs5
  refine (r17At x hg ra rc rs i _ ((HR.out.below HB6.out (Nat.le_refl _)).mono (by omega))).mono ?_
  rintro e w7 ⟨rfl, hb7⟩
  rw [HA.out]
  have hs7 := hb7.size
  have HR7 := Lib.hid ((hb7.block w.heap.size hlt6).trans HR6.out)
  have HB7 := Lib.hid (HB6.out.trans (hb7.mono (by omega)))
  have HL7 := Lib.hid (HL6.out.below hb7)
  have HROW7 := Lib.hid ((hb7.block w5.heap.size (by omega)).trans HROW6.out)
  have HBS7 := Lib.hid ((HBS6.out.below hb7 (Nat.le_refl _)).mono hs7)
  have d0 : w7.cell? ⟨w.heap.size, 0, none⟩ = some (.int .i64 x.base) := cell_of_row w7 w.heap.size 0 _ _ _ HR7.out
  have d1 : w7.cell? ⟨w.heap.size, 1, none⟩ = some (.int .i64 x.term) := cell_of_row w7 w.heap.size 1 _ _ _ HR7.out
  have d2 : w7.cell? ⟨w.heap.size, 2, none⟩ = some (.slice ra rs.length rc) := cell_of_row w7 w.heap.size 2 _ _ _ HR7.out
  clear hb7
  go_wp2_with fail
  refine (r17Last x hg ra rs.length rc HR.out.len _).mono ?_
  rintro e w8 ⟨rfl, hb8⟩
  rw [HL.out]
  have hs8 := hb8.size
  have HR8 := Lib.hid ((hb8.block w.heap.size (by omega)).trans HR7.out)
  have HB8 := Lib.hid (HB7.out.trans (hb8.mono (by omega)))
  have HL8 := Lib.hid (HL7.out.below hb8)
  have HROW8 := Lib.hid ((hb8.block w5.heap.size (by omega)).trans HROW7.out)
  have HBS8 := Lib.hid ((HBS7.out.below hb8 (Nat.le_refl _)).mono hs8)
  clear d0 d1 d2 hb8
  have d0 : w8.cell? ⟨w.heap.size, 0, none⟩ = some (.int .i64 x.base) := cell_of_row w8 w.heap.size 0 _ _ _ HR8.out
  have d1 : w8.cell? ⟨w.heap.size, 1, none⟩ = some (.int .i64 x.term) := cell_of_row w8 w.heap.size 1 _ _ _ HR8.out
  have d2 : w8.cell? ⟨w.heap.size, 2, none⟩ = some (.slice ra rs.length rc) := cell_of_row w8 w.heap.size 2 _ _ _ HR8.out
  go_wp2_with fail
  refine (r17At x hg ra rc rs L _ ((HR.out.below HB8.out (Nat.le_refl _)).mono (by omega))).mono ?_
  rintro e w9 ⟨rfl, hb9⟩
  rw [HAL.out]
  have hs9 := hb9.size
  have HR9 := Lib.hid ((hb9.block w.heap.size (by omega)).trans HR8.out)
  have HB9 := Lib.hid (HB8.out.trans (hb9.mono (by omega)))
  have HL9 := Lib.hid (HL8.out.below hb9)
  have HROW9 := Lib.hid ((hb9.block w5.heap.size (by omega)).trans HROW8.out)
  have HBS9 := Lib.hid ((HBS8.out.below hb9 (Nat.le_refl _)).mono hs9)
  clear d0 d1 d2 hb9
  have HS9 := Lib.hid (show LnS w.heap.size x.base x.term ra rs.length rc w9 from ⟨cell_of_row w9 w.heap.size 0 _ _ _ HR9.out, cell_of_row w9 w.heap.size 1 _ _ _ HR9.out, cell_of_row w9 w.heap.size 2 _ _ _ HR9.out⟩)
  have hlt9 : w.heap.size < w9.heap.size := by omega
  have d0 := HS9.out.g0
  have d1 := HS9.out.g1
  have d2 := HS9.out.g2
  go_wp2_with fail
  clear d0 d1 d2
  refine wp_region_any (by kernel_rfl) ?_
  have HIS9 := Lib.hid (show IsS w.heap.size w5.heap.size x.base x.term ra rs.length rc it ia ic w9 from ⟨HS9.out.g0, HS9.out.g1, HS9.out.g2, cell_of_row w9 w5.heap.size 0 _ _ _ HROW9.out, cell_of_row w9 w5.heap.size 1 _ _ _ HROW9.out⟩)
  have hlt9' : w5.heap.size < w9.heap.size := by omega
  refine wpAny_of_held (S := IsS w.heap.size w5.heap.size x.base x.term ra rs.length rc it ia ic) _ _ _ _ ?_
  have hS0 : IsS w.heap.size w5.heap.size x.base x.term ra rs.length rc it ia ic w9.drew := HIS9.out.keep (N := w9.heap.size) (Below.refl _ _).drew hlt9 hlt9'
  refine heldTake 0 80 rfl rfl (by kernel_rfl) (by kernel_rfl) (by kernel_rfl) (fun _ _ _ h => h) hS0 (.inl ⟨by rfl, by intro w' hS; obtain ⟨s1, s2, s3, s4, s5⟩ := hS; go_simp; (try rfl)⟩) ?_
  simp only [List.set_cons_zero, List.set_cons_succ]
  refine heldTake 1 81 rfl rfl (by kernel_rfl) (by kernel_rfl) (by kernel_rfl) (fun _ _ _ h => h) hS0 (.inl ⟨by rfl, by intro w' hS; obtain ⟨s1, s2, s3, s4, s5⟩ := hS; go_simp; (try rfl)⟩) ?_
  simp only [List.set_cons_zero, List.set_cons_succ]
  refine heldTake 2 82 rfl rfl (by kernel_rfl) (by kernel_rfl) (by kernel_rfl) (fun _ _ _ h => h) hS0 (.inl ⟨by rfl, by intro w' hS; obtain ⟨s1, s2, s3, s4, s5⟩ := hS; go_simp; (try rfl)⟩) ?_
  simp only [List.set_cons_zero, List.set_cons_succ]
  refine heldTake 3 83 rfl rfl (by kernel_rfl) (by kernel_rfl) (by kernel_rfl) (fun _ _ _ h => h) hS0 (.inl ⟨by rfl, by intro w' hS; obtain ⟨s1, s2, s3, s4, s5⟩ := hS; go_simp; (try rfl)⟩) ?_
  simp only [List.set_cons_zero, List.set_cons_succ]
  refine heldTake 4 84 rfl rfl (by kernel_rfl) (by kernel_rfl) (by kernel_rfl) (fun _ _ _ h => h) hS0 (.inl ⟨by rfl, by intro w' hS; obtain ⟨s1, s2, s3, s4, s5⟩ := hS; go_simp; (try rfl)⟩) ?_
  simp only [List.set_cons_zero, List.set_cons_succ]
  refine heldTake 5 85 rfl rfl (by kernel_rfl) (by kernel_rfl) (by kernel_rfl) (fun _ _ _ h => h) hS0 (.inl ⟨by rfl, by intro w' hS; obtain ⟨s1, s2, s3, s4, s5⟩ := hS; go_simp; (try rfl)⟩) ?_
  simp only [List.set_cons_zero, List.set_cons_succ]
  refine heldTake 6 86 rfl rfl (by kernel_rfl) (by kernel_rfl) (by kernel_rfl) (fun _ _ _ h => h) hS0 (.inl ⟨by rfl, by intro w' hS; obtain ⟨s1, s2, s3, s4, s5⟩ := hS; go_simp; (try rfl)⟩) ?_
  simp only [List.set_cons_zero, List.set_cons_succ]
  refine heldTake 7 87 rfl rfl (by kernel_rfl) (by kernel_rfl) (by kernel_rfl) (fun _ _ _ h => h) hS0 (.inl ⟨by rfl, by intro w' hS; obtain ⟨s1, s2, s3, s4, s5⟩ := hS; go_simp; (try rfl)⟩) ?_
  simp only [List.set_cons_zero, List.set_cons_succ]
  refine heldOne 8 (by kernel_rfl) rfl (by rfl) ?_
  go_simp
  refine (r17Last x hg ra rs.length rc HR.out.len _).mono ?_
  rintro e U ⟨rfl, hbq⟩
  rw [HL.out]
  have hbU : Below w9.heap.size w9 U := (show Below w9.heap.size w9 w9.drew from (Below.refl _ _).drew).trans hbq
  have hsU := hbU.size
  have hSU := HIS9.out.keep hbU hlt9 hlt9'
  have HBU := Lib.hid hbU
  refine ⟨hSU, ?_⟩
  clear hS0 hbq hbU
  refine heldTake 9 89 rfl rfl (by kernel_rfl) (by kernel_rfl) (by kernel_rfl) (fun _ _ _ h => h) hSU (.inl ⟨by rfl, by intro w' hS; obtain ⟨s1, s2, s3, s4, s5⟩ := hS; go_simp; (try rfl)⟩) ?_
  simp only [List.set_cons_zero, List.set_cons_succ]
  refine heldTake 10 90 rfl rfl (by kernel_rfl) (by kernel_rfl) (by kernel_rfl) (fun _ _ _ h => h) hSU (.inl ⟨by rfl, by intro w' hS; obtain ⟨s1, s2, s3, s4, s5⟩ := hS; go_simp; (try rfl)⟩) ?_
  simp only [List.set_cons_zero, List.set_cons_succ]
  refine heldTake 11 91 rfl rfl (by kernel_rfl) (by kernel_rfl) (by kernel_rfl) (fun _ _ _ h => h) hSU (.inl ⟨by rfl, by intro w' hS; obtain ⟨s1, s2, s3, s4, s5⟩ := hS; go_simp; (try rfl)⟩) ?_
  simp only [List.set_cons_zero, List.set_cons_succ]
  refine heldTake 12 92 rfl rfl (by kernel_rfl) (by kernel_rfl) (by kernel_rfl) (fun _ _ _ h => h) hSU (.inl ⟨by rfl, by intro w' hS; obtain ⟨s1, s2, s3, s4, s5⟩ := hS; go_simp; (try rfl)⟩) ?_
  simp only [List.set_cons_zero, List.set_cons_succ]
  refine heldTake 13 93 rfl rfl (by kernel_rfl) (by kernel_rfl) (by kernel_rfl) (fun _ _ _ h => h) hSU (.inl ⟨by rfl, by intro w' hS; obtain ⟨s1, s2, s3, s4, s5⟩ := hS; go_simp; (try rfl)⟩) ?_
  simp only [List.set_cons_zero, List.set_cons_succ]
  refine heldTake 14 94 rfl rfl (by kernel_rfl) (by kernel_rfl) (by kernel_rfl) (fun _ _ _ h => h) hSU (.inl ⟨by rfl, by intro w' hS; obtain ⟨s1, s2, s3, s4, s5⟩ := hS; go_simp; (try rfl)⟩) ?_
  simp only [List.set_cons_zero, List.set_cons_succ]
  refine heldTake 15 95 rfl rfl (by kernel_rfl) (by kernel_rfl) (by kernel_rfl) (fun _ _ _ h => h) hSU (.inl ⟨by rfl, by intro w' hS; obtain ⟨s1, s2, s3, s4, s5⟩ := hS; go_simp; (try rfl)⟩) ?_
  simp only [List.set_cons_zero, List.set_cons_succ]
  refine heldTake 17 97 rfl rfl (by kernel_rfl) (by kernel_rfl) (by kernel_rfl) (fun _ _ _ h => h) hSU (.inl ⟨by rfl, by intro w' hS; obtain ⟨s1, s2, s3, s4, s5⟩ := hS; go_simp; (try rfl)⟩) ?_
  simp only [List.set_cons_zero, List.set_cons_succ]
  refine heldTake 18 98 rfl rfl (by kernel_rfl) (by kernel_rfl) (by kernel_rfl) (fun _ _ _ h => h) hSU (.inl ⟨by rfl, by intro w' hS; obtain ⟨s1, s2, s3, s4, s5⟩ := hS; go_simp; (try rfl)⟩) ?_
  simp only [List.set_cons_zero, List.set_cons_succ]
  have HSU := Lib.hid hSU
  clear hSU
  refine wpAnyH_two (i := 16) (j := 19) (by kernel_rfl) (wpOp_wp rfl (by rfl) ?_) (wpOp_wp rfl (by rfl) ?_)
  · skip
    go_simp
    obtain ⟨U2, hU2⟩ : ∃ U2, U2 = U.alloc (.cells #[.int .i64 it.1, .slice ia it.2.length ic] 45) := ⟨_, rfl⟩
    rw [← hU2]
    have hbU2 : Below U.heap.size U U2 := by rw [hU2]; exact (Below.refl _ _).alloc (Nat.le_refl _) _
    have hsU2 : U2.heap.size = U.heap.size + 1 := by rw [hU2]; simp
    have hb92 : Below w9.heap.size w9 U2 := HBU.out.trans (hbU2.mono hsU)
    have hS2 := HIS9.out.keep hb92 hlt9 hlt9'
    have HS2 := Lib.hid hS2
    have HB92 := Lib.hid hb92
    have HSL2 := Lib.hid (show SlAt U2 (U.heap.size + 1) 2 (some ⟨U.heap.size, 0, none⟩) 1 1 [.int .i64 it.1, .slice ia it.2.length ic] by rw [hU2]; exact slAt_item U #[.int .i64 it.1, .slice ia it.2.length ic] 45 2 rfl)
    refine ⟨HS2.out, ?_⟩
    clear hU2 hbU2 hb92 hS2
    refine heldOne 19 (by kernel_rfl) rfl (by rfl) ?_
    go_simp
    have hbz2 : Below w.heap.size w U2 := HB9.out.trans (HB92.out.mono (by omega))
    refine (r17From x hg ra rc rs i 1 _ ((HR.out.below hbz2 (Nat.le_refl _)).mono hbz2.size)).mono ?_
    rintro e w12 ⟨a12, c12, ms12, rfl, -, hi12, hx12, hb12⟩
    have HI12 := Lib.hid hi12
    have HX12 := Lib.hid hx12
    have HBZ := Lib.hid (show Below w9.heap.size w9 w12 from HB92.out.trans (hb12.mono (by omega)))
    have hs12 := hb12.size
    have HIA := Lib.hid (show ItemsAt w12 w12.heap.size (some ⟨U.heap.size, 0, none⟩) 1 1 [⟨it.1, ia, it.2.length, ic, it.2⟩] from ⟨(HSL2.out.below hb12 (by omega)).mono (by omega), fun m9 hm9 => by
      simp at hm9
      subst hm9
      exact (HBS9.out.below HBZ.out (Nat.le_refl _)).mono HBZ.out.size⟩)
    refine ⟨HIS9.out.keep HBZ.out hlt9 hlt9', ?_⟩
    clear hi12 hx12 hb12 hbz2
    refine heldOne 20 (by kernel_rfl) rfl (by rfl) ?_
    go_simp
    refine (r17Same [⟨it.1, ia, it.2.length, ic, it.2⟩] ms12 _ a12 1 1 _ c12 (by omega) _ HIA.out HI12.out).mono ?_
    rintro e V9 ⟨rfl, hb13⟩
    rw [show decide ([(⟨it.1, ia, it.2.length, ic, it.2⟩ : MItem)].map MItem.it = ms12.map MItem.it) = true from decide_eq_true (by rw [HX12.out, HFO.out]; rfl)]
    have hb9 : Below w9.heap.size w9 V9 := HBZ.out.trans (hb13.mono HBZ.out.size)
    have hSV := HIS9.out.keep hb9 hlt9 hlt9'
    refine ⟨hSV, ?_⟩
    clear hb13
    refine heldTake 21 101 rfl rfl (by kernel_rfl) (by kernel_rfl) (by kernel_rfl) (fun _ _ _ h => h) hSV (.inl ⟨by rfl, by intro w' hS; obtain ⟨s1, s2, s3, s4, s5⟩ := hS; go_simp; (try rfl)⟩) ?_
    simp only [List.set_cons_zero, List.set_cons_succ]
    refine heldTake 22 102 rfl rfl (by kernel_rfl) (by kernel_rfl) (by kernel_rfl) (fun _ _ _ h => h) hSV (.inl ⟨by rfl, by intro w' hS; obtain ⟨s1, s2, s3, s4, s5⟩ := hS; go_simp; (try rfl)⟩) ?_
    simp only [List.set_cons_zero, List.set_cons_succ]
    refine heldTake 23 103 rfl rfl (by kernel_rfl) (by kernel_rfl) (by kernel_rfl) (fun _ _ _ h => h) hSV (.inl ⟨by rfl, by intro w' hS; obtain ⟨s1, s2, s3, s4, s5⟩ := hS; go_simp; (try rfl)⟩) ?_
    simp only [List.set_cons_zero, List.set_cons_succ]
    refine wpAnyH_done (by kernel_rfl) ?_ _
    clear hSV
    have hs9' := hb9.size
    have HSV9 := Lib.hid (HS9.out.keep hb9 hlt9)
    have HBV9 := Lib.hid (HB9.out.trans (hb9.mono (by omega)))
    have HLV9 := Lib.hid (HL9.out.below hb9)
    clear hb9
    go_wp2_with fail
    have wB : IntKind.i64.wrap (x.base + 1) = x.base + 1 := IntWalk.i64_in _ (by omega)
    refine wp_region_any (by kernel_rfl) ?_
    refine wpAny_of_held (S := LnS w.heap.size x.base x.term ra rs.length rc) _ _ _ _ ?_
    have hS0 : LnS w.heap.size x.base x.term ra rs.length rc V9.drew := HSV9.out.keep (N := V9.heap.size) (Below.refl _ _).drew (by omega)
    refine heldTake 0 104 rfl rfl (by kernel_rfl) (by kernel_rfl) (by kernel_rfl) (fun _ _ _ h => h) hS0 (.inl ⟨by rfl, by intro w' hS; obtain ⟨s1, s2, s3⟩ := hS; go_simp; (try rfl)⟩) ?_
    simp only [List.set_cons_zero, List.set_cons_succ]
    refine heldTake 1 105 rfl rfl (by kernel_rfl) (by kernel_rfl) (by kernel_rfl) (fun _ _ _ h => h) hS0 (.inl ⟨by rfl, by intro w' hS; obtain ⟨s1, s2, s3⟩ := hS; go_simp; (try rfl)⟩) ?_
    simp only [List.set_cons_zero, List.set_cons_succ]
    refine heldTake 2 106 rfl rfl (by kernel_rfl) (by kernel_rfl) (by kernel_rfl) (fun _ _ _ h => h) hS0 (.inl ⟨by rfl, by intro w' hS; obtain ⟨s1, s2, s3⟩ := hS; go_simp; (try rfl)⟩) ?_
    simp only [List.set_cons_zero, List.set_cons_succ]
    refine heldTake 4 108 rfl rfl (by kernel_rfl) (by kernel_rfl) (by kernel_rfl) (fun _ _ _ h => h) hS0 (.inl ⟨by rfl, by intro w' hS; obtain ⟨s1, s2, s3⟩ := hS; go_simp; (try rfl)⟩) ?_
    simp only [List.set_cons_zero, List.set_cons_succ]
    refine heldTake 5 109 rfl rfl (by kernel_rfl) (by kernel_rfl) (by kernel_rfl) (fun _ _ _ h => h) hS0 (.inl ⟨by rfl, by intro w' hS; obtain ⟨s1, s2, s3⟩ := hS; go_simp; (try rfl)⟩) ?_
    simp only [List.set_cons_zero, List.set_cons_succ]
    refine heldOne 3 (by kernel_rfl) rfl (by rfl) ?_
    go_simp
    have hVd : Below V9.heap.size V9 V9.drew := (Below.refl _ _).drew
    refine (lineFromA base p x hg la lc ms (x.base + 1) 5000 _ (HLV9.out.below hVd)).mono ?_
    rintro e w10 ⟨a10, c10, ms10, rfl, ho10, hi10, hb10⟩
    rw [hg.from_all] at hi10
    have hb10' : Below V9.heap.size V9 w10 := hVd.trans hb10
    have hs10 := hb10'.size
    have hS10 := HSV9.out.keep hb10' (by omega)
    have HB10 := Lib.hid (HBV9.out.trans (hb10'.mono (by omega)))
    have HO10 := Lib.hid ho10
    have HI10 := Lib.hid hi10
    have hl10 : ms10.length ≤ 1000000 := by
      have h9 := congrArg List.length HI10.out
      have h8 := hg.n1
      simp at h9
      omega
    refine ⟨hS10, ?_⟩
    clear ho10 hi10 hb10 hb10' hVd hS0
    refine heldOne 6 (by kernel_rfl) rfl (by rfl) ?_
    go_simp
    refine (r17Same ms10 rs a10 ra _ c10 _ rc hl10 _ HO10.out.at ((HR.out.its.below HB10.out (Nat.le_refl _)).mono (by omega))).mono ?_
    rintro e w11 ⟨rfl, hb11⟩
    rw [show decide (ms10.map MItem.it = rs.map MItem.it) = true from decide_eq_true (HI10.out.trans HR.out.eq.symm)]
    have hS11 := hS10.keep hb11 (by omega)
    have HB11 := Lib.hid (HB10.out.trans (hb11.mono (by omega)))
    refine ⟨hS11, ?_⟩
    clear hb11 hS10
    refine heldTake 7 6 rfl rfl (by kernel_rfl) (by kernel_rfl) (by kernel_rfl) (fun _ _ _ h => h) hS11 (.inl ⟨by rfl, by intro w' hS; obtain ⟨s1, s2, s3⟩ := hS; go_simp; (try rfl)⟩) ?_
    simp only [List.set_cons_zero, List.set_cons_succ]
    refine wpAnyH_done (by kernel_rfl) ?_ _
    clear hS11
    go_wp2
    go_ret
    exact ⟨rfl, HB11.out⟩
  · skip
    go_simp
    have hbz2 : Below w.heap.size w U := HB9.out.trans (HBU.out.mono (by omega))
    refine (r17From x hg ra rc rs i 1 _ ((HR.out.below hbz2 (Nat.le_refl _)).mono hbz2.size)).mono ?_
    rintro e w11 ⟨a12, c12, ms12, rfl, -, hi12, hx12, hb12⟩
    have hs11 := hb12.size
    have hb92 : Below w9.heap.size w9 w11 := HBU.out.trans (hb12.mono hsU)
    have HB92 := Lib.hid hb92
    refine ⟨HIS9.out.keep hb92 hlt9 hlt9', ?_⟩
    clear hb92 hb12 hbz2
    refine heldOne 16 (by kernel_rfl) rfl (by rfl) ?_
    go_simp
    obtain ⟨w12, hU2⟩ : ∃ U2, U2 = w11.alloc (.cells #[.int .i64 it.1, .slice ia it.2.length ic] 45) := ⟨_, rfl⟩
    rw [← hU2]
    have hbU2 : Below w11.heap.size w11 w12 := by rw [hU2]; exact (Below.refl _ _).alloc (Nat.le_refl _) _
    have hsU2 : w12.heap.size = w11.heap.size + 1 := by rw [hU2]; simp
    have HI12 := Lib.hid ((hi12.below hbU2 (Nat.le_refl _)).mono hbU2.size)
    have HX12 := Lib.hid hx12
    have HBZ := Lib.hid (show Below w9.heap.size w9 w12 from HB92.out.trans (hbU2.mono (by omega)))
    have HIA := Lib.hid (show ItemsAt w12 w12.heap.size (some ⟨w11.heap.size, 0, none⟩) 1 1 [⟨it.1, ia, it.2.length, ic, it.2⟩] from ⟨by rw [hsU2, hU2]; exact slAt_item w11 #[.int .i64 it.1, .slice ia it.2.length ic] 45 2 rfl, fun m9 hm9 => by
      simp at hm9
      subst hm9
      exact (HBS9.out.below HBZ.out (Nat.le_refl _)).mono HBZ.out.size⟩)
    refine ⟨HIS9.out.keep HBZ.out hlt9 hlt9', ?_⟩
    clear hi12 hx12 hU2 hbU2
    refine heldOne 20 (by kernel_rfl) rfl (by rfl) ?_
    go_simp
    refine (r17Same [⟨it.1, ia, it.2.length, ic, it.2⟩] ms12 _ a12 1 1 _ c12 (by omega) _ HIA.out HI12.out).mono ?_
    rintro e V9 ⟨rfl, hb13⟩
    rw [show decide ([(⟨it.1, ia, it.2.length, ic, it.2⟩ : MItem)].map MItem.it = ms12.map MItem.it) = true from decide_eq_true (by rw [HX12.out, HFO.out]; rfl)]
    have hb9 : Below w9.heap.size w9 V9 := HBZ.out.trans (hb13.mono HBZ.out.size)
    have hSV := HIS9.out.keep hb9 hlt9 hlt9'
    refine ⟨hSV, ?_⟩
    clear hb13
    refine heldTake 21 101 rfl rfl (by kernel_rfl) (by kernel_rfl) (by kernel_rfl) (fun _ _ _ h => h) hSV (.inl ⟨by rfl, by intro w' hS; obtain ⟨s1, s2, s3, s4, s5⟩ := hS; go_simp; (try rfl)⟩) ?_
    simp only [List.set_cons_zero, List.set_cons_succ]
    refine heldTake 22 102 rfl rfl (by kernel_rfl) (by kernel_rfl) (by kernel_rfl) (fun _ _ _ h => h) hSV (.inl ⟨by rfl, by intro w' hS; obtain ⟨s1, s2, s3, s4, s5⟩ := hS; go_simp; (try rfl)⟩) ?_
    simp only [List.set_cons_zero, List.set_cons_succ]
    refine heldTake 23 103 rfl rfl (by kernel_rfl) (by kernel_rfl) (by kernel_rfl) (fun _ _ _ h => h) hSV (.inl ⟨by rfl, by intro w' hS; obtain ⟨s1, s2, s3, s4, s5⟩ := hS; go_simp; (try rfl)⟩) ?_
    simp only [List.set_cons_zero, List.set_cons_succ]
    refine wpAnyH_done (by kernel_rfl) ?_ _
    clear hSV
    have hs9' := hb9.size
    have HSV9 := Lib.hid (HS9.out.keep hb9 hlt9)
    have HBV9 := Lib.hid (HB9.out.trans (hb9.mono (by omega)))
    have HLV9 := Lib.hid (HL9.out.below hb9)
    clear hb9
    go_wp2_with fail
    have wB : IntKind.i64.wrap (x.base + 1) = x.base + 1 := IntWalk.i64_in _ (by omega)
    refine wp_region_any (by kernel_rfl) ?_
    refine wpAny_of_held (S := LnS w.heap.size x.base x.term ra rs.length rc) _ _ _ _ ?_
    have hS0 : LnS w.heap.size x.base x.term ra rs.length rc V9.drew := HSV9.out.keep (N := V9.heap.size) (Below.refl _ _).drew (by omega)
    refine heldTake 0 104 rfl rfl (by kernel_rfl) (by kernel_rfl) (by kernel_rfl) (fun _ _ _ h => h) hS0 (.inl ⟨by rfl, by intro w' hS; obtain ⟨s1, s2, s3⟩ := hS; go_simp; (try rfl)⟩) ?_
    simp only [List.set_cons_zero, List.set_cons_succ]
    refine heldTake 1 105 rfl rfl (by kernel_rfl) (by kernel_rfl) (by kernel_rfl) (fun _ _ _ h => h) hS0 (.inl ⟨by rfl, by intro w' hS; obtain ⟨s1, s2, s3⟩ := hS; go_simp; (try rfl)⟩) ?_
    simp only [List.set_cons_zero, List.set_cons_succ]
    refine heldTake 2 106 rfl rfl (by kernel_rfl) (by kernel_rfl) (by kernel_rfl) (fun _ _ _ h => h) hS0 (.inl ⟨by rfl, by intro w' hS; obtain ⟨s1, s2, s3⟩ := hS; go_simp; (try rfl)⟩) ?_
    simp only [List.set_cons_zero, List.set_cons_succ]
    refine heldTake 4 108 rfl rfl (by kernel_rfl) (by kernel_rfl) (by kernel_rfl) (fun _ _ _ h => h) hS0 (.inl ⟨by rfl, by intro w' hS; obtain ⟨s1, s2, s3⟩ := hS; go_simp; (try rfl)⟩) ?_
    simp only [List.set_cons_zero, List.set_cons_succ]
    refine heldTake 5 109 rfl rfl (by kernel_rfl) (by kernel_rfl) (by kernel_rfl) (fun _ _ _ h => h) hS0 (.inl ⟨by rfl, by intro w' hS; obtain ⟨s1, s2, s3⟩ := hS; go_simp; (try rfl)⟩) ?_
    simp only [List.set_cons_zero, List.set_cons_succ]
    refine heldOne 3 (by kernel_rfl) rfl (by rfl) ?_
    go_simp
    have hVd : Below V9.heap.size V9 V9.drew := (Below.refl _ _).drew
    refine (lineFromA base p x hg la lc ms (x.base + 1) 5000 _ (HLV9.out.below hVd)).mono ?_
    rintro e w10 ⟨a10, c10, ms10, rfl, ho10, hi10, hb10⟩
    rw [hg.from_all] at hi10
    have hb10' : Below V9.heap.size V9 w10 := hVd.trans hb10
    have hs10 := hb10'.size
    have hS10 := HSV9.out.keep hb10' (by omega)
    have HB10 := Lib.hid (HBV9.out.trans (hb10'.mono (by omega)))
    have HO10 := Lib.hid ho10
    have HI10 := Lib.hid hi10
    have hl10 : ms10.length ≤ 1000000 := by
      have h9 := congrArg List.length HI10.out
      have h8 := hg.n1
      simp at h9
      omega
    refine ⟨hS10, ?_⟩
    clear ho10 hi10 hb10 hb10' hVd hS0
    refine heldOne 6 (by kernel_rfl) rfl (by rfl) ?_
    go_simp
    refine (r17Same ms10 rs a10 ra _ c10 _ rc hl10 _ HO10.out.at ((HR.out.its.below HB10.out (Nat.le_refl _)).mono (by omega))).mono ?_
    rintro e w11 ⟨rfl, hb11⟩
    rw [show decide (ms10.map MItem.it = rs.map MItem.it) = true from decide_eq_true (HI10.out.trans HR.out.eq.symm)]
    have hS11 := hS10.keep hb11 (by omega)
    have HB11 := Lib.hid (HB10.out.trans (hb11.mono (by omega)))
    refine ⟨hS11, ?_⟩
    clear hb11 hS10
    refine heldTake 7 6 rfl rfl (by kernel_rfl) (by kernel_rfl) (by kernel_rfl) (fun _ _ _ h => h) hS11 (.inl ⟨by rfl, by intro w' hS; obtain ⟨s1, s2, s3⟩ := hS; go_simp; (try rfl)⟩) ?_
    simp only [List.set_cons_zero, List.set_cons_succ]
    refine wpAnyH_done (by kernel_rfl) ?_ _
    clear hS11
    go_wp2
    go_ret
    exact ⟨rfl, HB11.out⟩
end Go.Proofs.Ytogcnfhmcpkdcaa

namespace Go.Proofs.Ytogcnfhmcpkdcaa
open Go.RowKit

theorem l17is (base p : Nat) (x : PLine) (hg : x.Good) (la : Option Addr) (lc : Nat) (ms : List MItem) (ra : Option Addr) (rc : Nat) (rs : List MItem) (i : Int) (w : World) (h : LnAt w base p x la lc ms) (hr : RAt w w.heap.size x ra rc rs) :
    Calls Try.prog 59 #[.pointer (some ⟨p, 0, none⟩), rv x ra rs.length rc, .int .i64 i] w fun e w' => e = .returned (.bool true) ∧ Below w.heap.size w w' := by
  by_cases h1 : i < x.base
  · exact l17is_low base p x hg la lc ms ra rc rs i w h hr h1
  · by_cases h2 : i = x.base
    · exact l17is_base base p x hg la lc ms ra rc rs i w h hr h2
    · by_cases h3 : x.last < i
      · exact l17is_high base p x hg la lc ms ra rc rs i w h hr h3
      · exact l17is_in base p x hg la lc ms ra rc rs i w h hr ⟨by omega, by omega⟩
end Go.Proofs.Ytogcnfhmcpkdcaa
