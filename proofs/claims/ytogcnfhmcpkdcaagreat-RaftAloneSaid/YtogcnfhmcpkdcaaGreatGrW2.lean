/-
  Walks of a group: how it is made.
-/
import Derived.Test.YtogcnfhmcpkdcaaGreatGrW1
namespace Go.Proofs.YtogcnfhmcpkdcaaGreat
open Go.RowKit
set_option linter.unusedVariables false
set_option linter.unusedSimpArgs false

section
variable {w w' w1 : World} {B g c : Nat} {G : PGroup} {M : GMem}
/-- the group's own block, behind the growing of a row -/
theorem GrAt.rowStays (h : GrAt w B g c G M) {i : Nat} (hi : i < 8) (hg : w.grownBy w1 (rowV G M i).ownBlock) : w1.heap[g]? = some (.cells (gcells G M) 67 (0, 0)) := by
  refine (hg.block g (h.lt (x := .g) rfl) (fun e => ?_)).trans h.row
  unfold rowV at e
  rw [ownBlock_eq] at e
  have := h.dis .g (.row i) g rfl ⟨hi, e.symm⟩
  cases this
theorem gcell_get {j : Nat} (hj : j < 8) : (gcells G M)[j]? = some (rowV G M j) := by
  have e : j = 0 ∨ j = 1 ∨ j = 2 ∨ j = 3 ∨ j = 4 ∨ j = 5 ∨ j = 6 ∨ j = 7 := by omega
  rcases e with rfl | rfl | rfl | rfl | rfl | rfl | rfl | rfl <;> rfl
theorem GrAt.cell1 (h : GrAt w B g c G M) {i : Nat} (hi : i < 8) (hg : w.grownBy w1 (rowV G M i).ownBlock) : w1.cell? ⟨g, i, none⟩ = some (rowV G M i) ∧ w1.frozen? ⟨g, i, none⟩ = false := by
  have hr := h.rowStays hi hg
  exact ⟨by rw [cell_of_row _ _ i _ _ _ hr]; exact gcell_get hi, frozen_of_row _ _ _ _ _ hr⟩

theorem GrAt.grewBelow (h : GrAt w B g c G M) {i : Nat} (hi : i < 8) (hg : w.grownBy w1 (rowV G M i).ownBlock) (j : Nat) (v : Value) : Below B w (w1.setCell ⟨g, j, none⟩ v) := by
  have hgB : B ≤ g := h.inn .g g rfl
  refine ⟨hg.os, hg.tape, hg.output, by simpa using hg.size, fun k hk => ?_⟩
  rw [Below.heap_setCell _ _ _ k (by show k ≠ g; omega)]
  refine hg.block k (by have := h.bs; omega) (fun e => ?_)
  unfold rowV at e
  rw [ownBlock_eq] at e
  have := h.inn (.row i) k ⟨hi, e.symm⟩
  omega

/-- behind a head that was made, and the cell that holds it -/
structure HdU (V : World) (B g c : Nat) (G : PGroup) (M : GMem) (L : List UInt8) (U : World) (n : Nat) (a : Option Addr) (k : Nat) : Prop where
  gr : GrAt U B g c G M
  it : SlAt U U.heap.size 1 (some ⟨n, 0, none⟩) 1 1 [.slice a L.length k]
  by_ : ByAt U a k L
  bel : Below V.heap.size V U

def PGroup.madeN (n i : Nat) : PGroup := ⟨(List.range i).map fun (j : Nat) => PRaft.new (j : Int) n, (List.range i).map fun (j : Nat) => (PRaft.new (j : Int) n).head, (List.range i).map fun _ => [], (List.range i).map fun _ => 0, [], [], [], [], true⟩
def PGroup.made (n : Nat) : PGroup := PGroup.madeN n n
theorem madeN_succ (n i : Nat) : PGroup.madeN n (i + 1) = { PGroup.madeN n i with rs := (PGroup.madeN n i).rs ++ [PRaft.new (i : Int) n], hd := (PGroup.madeN n i).hd ++ [(PRaft.new (i : Int) n).head], nt := (PGroup.madeN n i).nt ++ [[]], ats := (PGroup.madeN n i).ats ++ [0] } := by
  simp [PGroup.madeN, List.range_succ]

theorem infoPR : (Tryz.prog.info? 25).map (fun i => (i.zero, i.size, i.bytes)) = some (some (.pointer none), 1, 8) := by kernel_rfl
theorem infoInt : (Tryz.prog.info? 3).map (fun i => (i.zero, i.size, i.bytes)) = some (some (.int .i64 0), 1, 8) := by kernel_rfl
theorem infoBytesS9 : (Tryz.prog.info? 29).map (fun i => (i.zero, i.size, i.bytes)) = some (some (.slice none 0 0), 1, 24) := by kernel_rfl

set_option maxRecDepth 100000 in
set_option maxHeartbeats 2000000 in
theorem l18made (n : Nat) (h1 : 1 ≤ n) (h7 : n ≤ 7) (w : World) : Calls Tryz.prog 23 #[.int .i64 n] w fun e w' => ∃ g M, e = .returned (.pointer (some ⟨g, 0, none⟩)) ∧ GrAt w' w.heap.size g 0 (PGroup.made n) M ∧ Below w.heap.size w w' := by
  obtain ⟨iP, jP, jP0, jP1, jP2⟩ := info_parts infoPR
  obtain ⟨iI, jI, jI0, jI1, jI2⟩ := info_parts infoInt
  obtain ⟨iB, jB, jB0, jB1, jB2⟩ := info_parts infoBytes9
  obtain ⟨iS, jS, jS0, jS1, jS2⟩ := info_parts infoBytesS9
  have HN := Lib.hid (show GrAt (w.alloc (.cells (gcells PGroup.none GMem.none) 67)) w.heap.size w.heap.size 0 (PGroup.madeN n 0) GMem.none from grNone w 0)
  have HB0 := Lib.hid (show Below w.heap.size w (w.alloc (.cells (gcells PGroup.none GMem.none) 67)) from (Below.refl _ _).alloc (Nat.le_refl _) _)
  go_enter Tryz.func23, Tryz.ntmps23
  go_wp2_with fail
  obtain ⟨wo, hwo⟩ : ∃ wo : World, wo = w := ⟨_, rfl⟩
  rw [← hwo] at HN HB0
  have HWO := Lib.hid hwo
  clear hwo
  go_loopw [4] (fun iv wr => ∃ (i : Nat) (M : GMem), iv = .int .i64 i ∧ i ≤ n ∧ GrAt wr wo.heap.size wo.heap.size 0 (PGroup.madeN n i) M ∧ Below wo.heap.size wo wr) (fun iv _ => n - (intOf iv).toNat)
  case atStart => exact ⟨0, GMem.none, rfl, by omega, by rw [← HWO.out]; exact HN.out, by rw [← HWO.out]; exact HB0.out⟩
  case round =>
    obtain ⟨i, M, rfl, hi, hgr, hbe⟩ := hrel
    have HG := Lib.hid hgr
    have HBE := Lib.hid hbe
    clear hgr hbe
    rw [← HWO.out]
    by_cases hil : i < n
    · have t1 : decide ((i : Int) < (n : Int)) = true := decide_eq_true (by omega)
      have t1n : decide (i < n) = true := decide_eq_true hil
      go_wp2_with fail
      refine (raftNew_yes (i : Int) (n : Int) (by omega) (by omega) (by omega) (by omega) _).mono ?_
      rintro e w2 ⟨p, rfl, N, hmade⟩
      have HM := Lib.hid hmade
      have hs2 := hmade.2.1.size
      have hpl := hmade.1.lt
      clear hmade
      obtain ⟨G, hG⟩ : ∃ G, G = PGroup.madeN n i := ⟨_, rfl⟩
      have HGQ := Lib.hid hG
      rw [← hG] at HG
      obtain ⟨R, hR⟩ : ∃ R, R = PRaft.new (i : Int) n := ⟨_, rfl⟩
      have HRQ := Lib.hid hR
      rw [← hR] at HM
      have HPS := Lib.hid (show M.ps.length = i ∧ M.hs.length = i ∧ M.ts.length = i ∧ G.ats.length = i by
        refine ⟨by rw [HG.out.rl, hG]; simp [PGroup.madeN], ?_, ?_, by rw [hG]; simp [PGroup.madeN]⟩
        · have := congrArg List.length HG.out.ct.hq
          rw [hG] at this; simpa [PGroup.madeN] using this
        · have := congrArg List.length HG.out.ct.tq
          rw [hG] at this; simpa [PGroup.madeN] using this)
      have HOK := Lib.hid (show R.Ok by rw [hR]; exact ok_new (by omega) (by omega) (by omega) (by omega))
      have HSZ := Lib.hid (show R.line.put.length ≤ 900000 ∧ R.state.length ≤ 70000 by rw [hR]; exact ⟨by show (PLine.put ⟨0, 0, []⟩).length ≤ 900000; decide, by show ([] : List UInt8).length ≤ 70000; decide⟩)
      have HNP := Lib.hid (show N.ps = [] by
        have h9 := HM.out.1.po.q
        rw [hR] at h9
        exact List.map_eq_nil_iff.1 h9)
      have HFR := Lib.hid (show ∀ k, N.own p k → wo.heap.size ≤ k ∧ ∀ y, ¬ M.own wo.heap.size y k from fun k hk => HG.out.free (HM.out.2.2 k hk))
      clear hG hR
      obtain ⟨X, hX⟩ : ∃ X, X = w2.alloc (.cells #[.pointer (some ⟨p, 0, none⟩)] 25) := ⟨_, rfl⟩
      have hbX : Below w2.heap.size w2 X := by rw [hX]; exact (Below.refl _ _).alloc (Nat.le_refl _) _
      have HG2 := Lib.hid (HG.out.below HM.out.2.1)
      have HGX := Lib.hid (HG2.out.below hbX)
      have HRX := Lib.hid (HM.out.1.below hbX)
      have HSX := Lib.hid (show SlAt X (w2.heap.size + 1) 1 (some ⟨w2.heap.size, 0, none⟩) 1 1 [.pointer (some ⟨p, 0, none⟩)] by rw [hX]; exact slAt_one w2 _ _)
      have HBX := Lib.hid (hbX)
      have hx := hbX.size
      have hxs : X.heap.size = w2.heap.size + 1 := by rw [hX]; simp
      clear hbX
      have c0 : w2.cell? ⟨wo.heap.size, 0, none⟩ = some (.slice (M.ra 0) M.ps.length (M.rc 0)) := HG2.out.cl (i := 0) (by omega)
      go_wp2_with (at_builtin; rw [← hX]; refine wpList_append_sl _ rfl _ _ 61 rfl 0 25 iP (.pointer none) 1 8 Tryz.underlying61 jP jP0 jP1 jP2 rfl (by decide) _ _ _ rfl (HGX.out.rows 0 (by omega)) (w2.heap.size + 1) (some ⟨w2.heap.size, 0, none⟩) 1 1 [.pointer (some ⟨p, 0, none⟩)] rfl HSX.out (one_oneCell rfl) ?c1 ?c2 ?c3 ?_)
      case c1 => show M.ps.length + 1 ≤ maxLen; have := HPS.out.1; unfold maxLen; omega
      case c2 => show (M.ps.length + 1) * 8 ≤ _; have := HPS.out.1; omega
      case c3 => exact Nat.zero_le _
      intro a7 c7 w7 hown7 hgrow7 hat7
      rw [← hX] at hgrow7
      rw [← hxs] at hat7
      have hadd := HGX.out.addRaft HRX.out HNP.out HFR.out hown7 hgrow7 hat7
      have hs7 := hgrow7.size
      obtain ⟨d0, e0⟩ := HGX.out.cell1 (i := 0) (by omega) hgrow7
      have d0 : w7.cell? ⟨wo.heap.size, 0, none⟩ = some (.slice (M.ra 0) M.ps.length (M.rc 0)) := d0
      clear c0 hX
      obtain ⟨W8, hW8⟩ : ∃ W8, W8 = w7.setCell ⟨wo.heap.size, 0, none⟩ (.slice a7 (rowN G M 0 + 1) c7) := ⟨_, rfl⟩
      have HB8 := Lib.hid (show Below wo.heap.size wo W8 from HBE.out.trans ((HM.out.2.1.trans (HBX.out.mono hs2)).mono HBE.out.size |>.trans (by rw [hW8]; exact HGX.out.grewBelow (i := 0) (by omega) hgrow7 0 _)))
      have HADD := Lib.hid hadd
      rw [show (M.ps.length : Nat) = rowN G M 0 from rfl, ← hW8] at HADD
      clear hadd hown7 hgrow7 hat7
      have hs8 : W8.heap.size = w7.heap.size := by rw [hW8]; simp
      obtain ⟨M1, hM1⟩ : ∃ M1 : GMem, M1 = { M with ra := upd M.ra 0 a7, rc := upd M.rc 0 c7, ps := M.ps ++ [(p, N)] } := ⟨_, rfl⟩
      obtain ⟨G1, hG1⟩ : ∃ G1 : PGroup, G1 = { G with rs := G.rs ++ [R] } := ⟨_, rfl⟩
      rw [← hM1, ← hG1] at HADD
      have HM1 := Lib.hid (show M1.hs = M.hs ∧ M1.ts = M.ts ∧ M1.ra 1 = M.ra 1 ∧ M1.rc 1 = M.rc 1 by rw [hM1]; exact ⟨rfl, rfl, rfl, rfl⟩)
      have HR8 := Lib.hid (show RfAt W8 p R N by
        refine HADD.out.rf M.ps.length R (p, N) ?_ ?_
        · rw [hG1, HPS.out.1]
          have := HG.out.rl
          rw [HPS.out.1] at this
          show (G.rs ++ [R])[i]? = _
          rw [snoc_get, if_pos this]
        · rw [hM1]; show (M.ps ++ [(p, N)])[M.ps.length]? = _; rw [snoc_get, if_pos rfl])
      have HGQ1 := Lib.hid (hG1)
      clear hM1 hG1
      go_wp2_with fail
      rw [← hW8]
      clear hW8
      refine wp_region_any (by kernel_rfl) ?_
      refine wpAny_of_held (S := PZ wo.heap.size) _ _ _ _ ?_
      have hdr : Below W8.heap.size W8 W8.drew := (Below.refl _ _).drew
      have HG9 := Lib.hid (HADD.out.below hdr)
      have HR9 := Lib.hid (HR8.out.below hdr)
      have hS0 : PZ wo.heap.size W8.drew := ⟨HG9.out.lt (x := .g) rfl⟩
      refine heldTake 0 28 rfl rfl (by kernel_rfl) (by kernel_rfl) (by kernel_rfl) (fun _ _ _ h => h) hS0 (.inl ⟨by rfl, by intro w' hS; obtain ⟨s1⟩ := hS; go_simp; (try rfl)⟩) ?_
      simp only [List.set_cons_zero, List.set_cons_succ]
      refine heldTake 1 29 rfl rfl (by kernel_rfl) (by kernel_rfl) (by kernel_rfl) (fun _ _ _ h => h) hS0 (.inl ⟨by rfl, by intro w' hS; obtain ⟨s1⟩ := hS; go_simp; (try rfl)⟩) ?_
      simp only [List.set_cons_zero, List.set_cons_succ]
      refine heldTake 5 33 rfl rfl (by kernel_rfl) (by kernel_rfl) (by kernel_rfl) (fun _ _ _ h => h) hS0 (.inl ⟨by rfl, by intro w' hS; obtain ⟨s1⟩ := hS; go_simp; (try rfl)⟩) ?_
      simp only [List.set_cons_zero, List.set_cons_succ]
      refine heldTake 2 30 rfl rfl (by kernel_rfl) (by kernel_rfl) (by kernel_rfl) (fun _ _ _ h => h) hS0 (.inl ⟨by rfl, by intro w' hS; obtain ⟨s1⟩ := hS; go_simp; (try rfl)⟩) ?_
      simp only [List.set_cons_zero, List.set_cons_succ]
      refine heldTake 3 31 rfl rfl (by kernel_rfl) (by kernel_rfl) (by kernel_rfl) (fun _ _ _ h => h) hS0 (.inl ⟨by rfl, by intro w' hS; obtain ⟨s1⟩ := hS; go_simp; (try rfl)⟩) ?_
      simp only [List.set_cons_zero, List.set_cons_succ]
      have HS0 := Lib.hid hS0
      clear hS0
      apply wayR (fun U n a4 c4 => HdU W8 wo.heap.size wo.heap.size 0 G1 M1 R.head U n a4 c4)
      intro hway
      have HHD := Lib.hid (fun (V : World) (hv : RfAt V p R N) => raftHead p R N HOK.out.bt0 HOK.out.bt1 HOK.out.bf0 HOK.out.bf1 HOK.out.line HSZ.out.1 HSZ.out.2 V hv)
      refine wpAnyH_two (i := 4) (j := 6) (by kernel_rfl) (wpOp_wp rfl (by rfl) ?_) (wpOp_wp rfl (by rfl) ?_)
      · have p4 : W8.drew.cell? ⟨wo.heap.size, 1, none⟩ = some (.slice (M1.ra 1) M1.hs.length (M1.rc 1)) := HG9.out.cl (i := 1) (by omega)
        go_simp
        clear p4
        refine ⟨HS0.out, ?_⟩
        refine heldOne 6 (by kernel_rfl) rfl (by rfl) ?_
        go_simp
        refine (HHD.out _ HR9.out).mono ?_
        rintro e V9 ⟨a4, c4, rfl, hby9, hb9, -⟩
        have hS9 : PZ wo.heap.size V9 := ⟨Nat.lt_of_lt_of_le HS0.out.s hb9.size⟩
        obtain ⟨U, hU⟩ : ∃ U, U = V9.alloc (.cells #[.slice a4 R.head.length c4] 27) := ⟨_, rfl⟩
        have hbU : Below V9.heap.size V9 U := by rw [hU]; exact (Below.refl _ _).alloc (Nat.le_refl _) _
        have hbVU : Below W8.heap.size W8 U := hdr.trans (hb9.trans (hbU.mono hb9.size))
        have hNW : HdU W8 wo.heap.size wo.heap.size 0 G1 M1 R.head U V9.heap.size a4 c4 := by
          refine ⟨HADD.out.below hbVU, ?_, OwnBs.below hby9 hbU, hbVU⟩
          rw [show U.heap.size = V9.heap.size + 1 by rw [hU]; simp, hU]
          exact slAt_one V9 _ _
        have hSU : PZ wo.heap.size U := ⟨hNW.gr.lt (x := .g) rfl⟩
        have HU := Lib.hid hU
        have HNW := Lib.hid hNW
        have HSU := Lib.hid hSU
        have HS9 := Lib.hid hS9
        clear hb9 hby9 hU hbU hbVU hNW hSU
        refine ⟨hS9, ?_⟩
        clear hS9
        refine heldOne 7 (by kernel_rfl) rfl (by rfl) ?_
        go_simp
        rw [← HU.out]
        refine ⟨HSU.out, ?_⟩
        have hnw := HNW.out
        generalize V9.heap.size = n at hnw ⊢
        exact hway U n a4 c4 hnw
      · go_simp
        refine (HHD.out _ HR9.out).mono ?_
        rintro e V9 ⟨a4, c4, rfl, hby9, hb9, -⟩
        have hS9 : PZ wo.heap.size V9 := ⟨Nat.lt_of_lt_of_le HS0.out.s hb9.size⟩
        obtain ⟨U, hU⟩ : ∃ U, U = V9.alloc (.cells #[.slice a4 R.head.length c4] 27) := ⟨_, rfl⟩
        have hbU : Below V9.heap.size V9 U := by rw [hU]; exact (Below.refl _ _).alloc (Nat.le_refl _) _
        have hbVU : Below W8.heap.size W8 U := hdr.trans (hb9.trans (hbU.mono hb9.size))
        have hNW : HdU W8 wo.heap.size wo.heap.size 0 G1 M1 R.head U V9.heap.size a4 c4 := by
          refine ⟨HADD.out.below hbVU, ?_, OwnBs.below hby9 hbU, hbVU⟩
          rw [show U.heap.size = V9.heap.size + 1 by rw [hU]; simp, hU]
          exact slAt_one V9 _ _
        have hSU : PZ wo.heap.size U := ⟨hNW.gr.lt (x := .g) rfl⟩
        have HP9 := Lib.hid (HADD.out.below (hdr.trans hb9))
        have HU := Lib.hid hU
        have HNW := Lib.hid hNW
        have HSU := Lib.hid hSU
        have HS9 := Lib.hid hS9
        clear hb9 hby9 hU hbU hbVU hNW hSU
        refine ⟨hS9, ?_⟩
        clear hS9
        refine wpAnyH_two (i := 4) (j := 7) (by kernel_rfl) (wpOp_wp rfl (by rfl) ?_) (wpOp_wp rfl (by rfl) ?_)
        · have p4 : V9.cell? ⟨wo.heap.size, 1, none⟩ = some (.slice (M1.ra 1) M1.hs.length (M1.rc 1)) := HP9.out.cl (i := 1) (by omega)
          go_simp
          clear p4
          refine ⟨HS9.out, ?_⟩
          refine heldOne 7 (by kernel_rfl) rfl (by rfl) ?_
          go_simp
          rw [← HU.out]
          refine ⟨HSU.out, ?_⟩
          have hnw := HNW.out
          generalize V9.heap.size = n at hnw ⊢
          exact hway U n a4 c4 hnw
        · go_simp
          rw [← HU.out]
          refine ⟨HSU.out, ?_⟩
          refine heldOne 4 (by kernel_rfl) rfl (by rfl) ?_
          have p4 : U.cell? ⟨wo.heap.size, 1, none⟩ = some (.slice (M1.ra 1) M1.hs.length (M1.rc 1)) := HNW.out.gr.cl (i := 1) (by omega)
          go_simp
          clear p4
          refine ⟨HSU.out, ?_⟩
          have hnw := HNW.out
          generalize V9.heap.size = n at hnw ⊢
          exact hway U n a4 c4 hnw
      intro U nn a4 c4 hnw
      have HNW := Lib.hid hnw
      clear hnw
      have HLN := Lib.hid (show M1.hs.length ≤ 7 ∧ M1.ts.length ≤ 7 by rw [HM1.out.1, HM1.out.2.1, HPS.out.2.1, HPS.out.2.2.1]; omega)
      refine heldOne 8 (by kernel_rfl) rfl (by rfl) ?_
      refine wp_append_sl U (.tmp 32) (.tmp 35) 29 rfl 0 27 iB (.slice none 0 0) 1 24 Tryz.underlying29 jB jB0 jB1 jB2 rfl (by decide) (.slice (M1.ra 1) M1.hs.length (M1.rc 1)) M1.hs.length (M1.hs.map MNote.cell) rfl (HNW.out.gr.rows 1 (by omega)) U.heap.size (some ⟨nn, 0, none⟩) 1 1 [.slice a4 R.head.length c4] rfl HNW.out.it (by intro u hu; simp at hu; subst hu; rfl) (by have := HLN.out.1; unfold maxLen; omega) (by have := HLN.out.1; omega) (Nat.zero_le _) ?_
      intro a11 c11 W11 o11 g11 hat11
      have hadd := HNW.out.gr.addHead ⟨a4, c4, R.head⟩ HNW.out.by_ o11 g11 hat11
      obtain ⟨p2, f2⟩ := HNW.out.gr.cell1 (i := 1) (by omega) g11
      have hS11 : PZ wo.heap.size W11 := ⟨Nat.lt_of_lt_of_le (HNW.out.gr.lt (x := .g) rfl) g11.size⟩
      refine ⟨hS11, ?_⟩
      go_simp
      refine heldTake 9 37 rfl rfl (by kernel_rfl) (by kernel_rfl) (by kernel_rfl) (fun _ _ _ h => h) hS11 (.inl ⟨by rfl, by intro w' hS; obtain ⟨s1⟩ := hS; go_simp; (try rfl)⟩) ?_
      simp only [List.set_cons_zero, List.set_cons_succ]
      refine heldTake 10 38 rfl rfl (by kernel_rfl) (by kernel_rfl) (by kernel_rfl) (fun _ _ _ h => h) hS11 (.inl ⟨by rfl, by intro w' hS; obtain ⟨s1⟩ := hS; go_simp; (try rfl)⟩) ?_
      simp only [List.set_cons_zero, List.set_cons_succ]
      refine heldOne 11 (by kernel_rfl) rfl (by rfl) ?_
      refine wp_store_cell 29 (.tmp 38) (.tmp 36) rfl wo.heap.size 1 (.slice a11 (M1.hs.length + 1) c11) _ rfl rfl rfl infoBytesS p2 f2 ?_
      obtain ⟨W12, hW12⟩ : ∃ W12, W12 = W11.setCell ⟨wo.heap.size, 1, none⟩ (.slice a11 (M1.hs.length + 1) c11) := ⟨_, rfl⟩
      rw [← hW12] at hadd ⊢
      have HG12 := Lib.hid hadd
      have hS12 : PZ wo.heap.size W12 := ⟨hadd.lt (x := .g) rfl⟩
      refine ⟨hS12, wpAnyH_done (by kernel_rfl) ?_ _⟩
      have HB12 := Lib.hid (show Below wo.heap.size wo W12 from HB8.out.trans ((HNW.out.bel.mono HB8.out.size).trans (by rw [hW12]; exact HNW.out.gr.grewBelow (i := 1) (by omega) g11 1 _)))
      clear hS11 hS12 p2 f2 hadd hW12 o11 g11 hat11 hdr
      obtain ⟨M2, hM2⟩ : ∃ M2 : GMem, M2 = { M1 with ra := upd M1.ra 1 a11, rc := upd M1.rc 1 c11, hs := M1.hs ++ [⟨a4, c4, R.head⟩] } := ⟨_, rfl⟩
      obtain ⟨G2, hG2⟩ : ∃ G2 : PGroup, G2 = { G1 with hd := G1.hd ++ [R.head] } := ⟨_, rfl⟩
      rw [← hM2, ← hG2] at HG12
      have HM2 := Lib.hid (show M2.ts = M.ts by rw [hM2]; exact HM1.out.2.1)
      have HGQ2 := Lib.hid hG2
      clear hM2 hG2
      obtain ⟨Y, hY⟩ : ∃ Y, Y = W12.alloc (.cells #[.slice none 0 0] 29) := ⟨_, rfl⟩
      have hbY : Below W12.heap.size W12 Y := by rw [hY]; exact (Below.refl _ _).alloc (Nat.le_refl _) _
      have HGY := Lib.hid (HG12.out.below hbY)
      have HSY := Lib.hid (show SlAt Y (W12.heap.size + 1) 1 (some ⟨W12.heap.size, 0, none⟩) 1 1 [.slice none 0 0] by rw [hY]; exact slAt_one W12 _ _)
      have HBY := Lib.hid hbY
      have hys : Y.heap.size = W12.heap.size + 1 := by rw [hY]; simp
      clear hbY
      have c2 : W12.cell? ⟨wo.heap.size, 2, none⟩ = some (.slice (M2.ra 2) M2.ts.length (M2.rc 2)) := HG12.out.cl (i := 2) (by omega)
      go_wp2_with (at_builtin; rw [← hY]; refine wpList_append_sl _ rfl _ _ 62 rfl 0 29 iS (.slice none 0 0) 1 24 Tryz.underlying62 jS jS0 jS1 jS2 rfl (by decide) _ _ _ rfl (HGY.out.rows 2 (by omega)) (W12.heap.size + 1) (some ⟨W12.heap.size, 0, none⟩) 1 1 [.slice none 0 0] rfl HSY.out (one_oneCell rfl) ?c1 ?c2 ?c3 ?_)
      case c1 => show M2.ts.length + 1 ≤ maxLen; have := HPS.out.2.2.1; rw [HM2.out]; unfold maxLen; omega
      case c2 => show (M2.ts.length + 1) * 24 ≤ _; have := HPS.out.2.2.1; rw [HM2.out]; omega
      case c3 => exact Nat.zero_le _
      intro a13 c13 w13 hown13 hgrow13 hat13
      rw [← hY] at hgrow13
      rw [← hys] at hat13
      have hadd3 := HGY.out.addNotes hown13 hgrow13 hat13
      obtain ⟨d2, e2⟩ := HGY.out.cell1 (i := 2) (by omega) hgrow13
      have d2 : w13.cell? ⟨wo.heap.size, 2, none⟩ = some (.slice (M2.ra 2) M2.ts.length (M2.rc 2)) := d2
      clear c2 hY
      obtain ⟨W14, hW14⟩ : ∃ W14, W14 = w13.setCell ⟨wo.heap.size, 2, none⟩ (.slice a13 (rowN G2 M2 2 + 1) c13) := ⟨_, rfl⟩
      have HB14 := Lib.hid (show Below wo.heap.size wo W14 from HB12.out.trans ((HBY.out.mono HB12.out.size).trans (by rw [hW14]; exact HGY.out.grewBelow (i := 2) (by omega) hgrow13 2 _)))
      have HG14 := Lib.hid hadd3
      rw [show (M2.ts.length : Nat) = rowN G2 M2 2 from rfl, ← hW14] at HG14
      have hr13 := HGY.out.rowStays (i := 2) (by omega) hgrow13
      clear hadd3 hown13 hgrow13 hat13
      obtain ⟨M3, hM3⟩ : ∃ M3 : GMem, M3 = { M2 with ra := upd M2.ra 2 a13, rc := upd M2.rc 2 c13, ts := M2.ts ++ [⟨none, 0, []⟩] } := ⟨_, rfl⟩
      obtain ⟨G3, hG3⟩ : ∃ G3 : PGroup, G3 = { G2 with nt := G2.nt ++ [[]] } := ⟨_, rfl⟩
      rw [← hM3, ← hG3] at HG14
      have HGQ3 := Lib.hid hG3
      have HATL := Lib.hid (show G3.ats.length = i by rw [hG3]; show G2.ats.length = i; rw [HGQ2.out]; show G1.ats.length = i; rw [HGQ1.out]; exact HPS.out.2.2.2)
      have HM3 := Lib.hid (show M3.ra 3 = M2.ra 3 ∧ M3.rc 3 = M2.rc 3 ∧ G3.ats = G2.ats by rw [hM3, hG3]; exact ⟨rfl, rfl, rfl⟩)
      clear hM3 hG3
      obtain ⟨Z, hZ⟩ : ∃ Z, Z = W14.alloc (.cells #[.int .i64 0] 3) := ⟨_, rfl⟩
      have hbZ : Below W14.heap.size W14 Z := by rw [hZ]; exact (Below.refl _ _).alloc (Nat.le_refl _) _
      have HGZ := Lib.hid (HG14.out.below hbZ)
      have hs14 : W14.heap.size = w13.heap.size := by rw [hW14]; simp
      have HSZ4 := Lib.hid (show SlAt Z (W14.heap.size + 1) 1 (some ⟨w13.heap.size, 0, none⟩) 1 1 [.int .i64 0] by rw [hZ, ← hs14]; exact slAt_one W14 _ _)
      have HBZ := Lib.hid hbZ
      have hzs : Z.heap.size = W14.heap.size + 1 := by rw [hZ]; simp
      clear hbZ
      have c3 : w13.cell? ⟨wo.heap.size, 3, none⟩ = some (.slice (M3.ra 3) G3.ats.length (M3.rc 3)) := by
        rw [cell_of_row _ _ 3 _ _ _ hr13, HM3.out.1, HM3.out.2.1, HM3.out.2.2]; exact gcell_get (by omega)
      clear hr13
      go_wp2_with (at_builtin; rw [← hW14, ← hZ]; (refine wpList_append_sl _ rfl _ _ 63 rfl 0 3 iI (.int .i64 0) 1 8 Tryz.underlying63 jI jI0 jI1 jI2 rfl (by decide) _ _ _ rfl (HGZ.out.rows 3 (by omega)) (W14.heap.size + 1) (some ⟨w13.heap.size, 0, none⟩) 1 1 [.int .i64 0] rfl HSZ4.out (one_oneCell rfl) ?c1 ?c2 ?c3 ?_))
      case c1 => show G3.ats.length + 1 ≤ maxLen; rw [HATL.out]; unfold maxLen; omega
      case c2 => show (G3.ats.length + 1) * 8 ≤ _; rw [HATL.out]; omega
      case c3 => exact Nat.zero_le _
      intro a15 c15 w15 hown15 hgrow15 hat15
      rw [← hW14, ← hZ] at hgrow15
      rw [← hs14, ← hzs] at hat15
      have hadd4 := HGZ.out.addAt 0 hown15 hgrow15 hat15
      obtain ⟨d3, e3⟩ := HGZ.out.cell1 (i := 3) (by omega) hgrow15
      have d3 : w15.cell? ⟨wo.heap.size, 3, none⟩ = some (.slice (M3.ra 3) G3.ats.length (M3.rc 3)) := d3
      clear c3 hZ
      obtain ⟨W16, hW16⟩ : ∃ W16, W16 = w15.setCell ⟨wo.heap.size, 3, none⟩ (.slice a15 (rowN G3 M3 3 + 1) c15) := ⟨_, rfl⟩
      have HB16 := Lib.hid (show Below wo.heap.size wo W16 from HB14.out.trans ((HBZ.out.mono HB14.out.size).trans (by rw [hW16]; exact HGZ.out.grewBelow (i := 3) (by omega) hgrow15 3 _)))
      have HG16 := Lib.hid hadd4
      rw [show (G3.ats.length : Nat) = rowN G3 M3 3 from rfl, ← hW16] at HG16
      clear hadd4 hown15 hgrow15 hat15
      have HEQ := Lib.hid (show { G3 with ats := G3.ats ++ [0] } = PGroup.madeN n (i + 1) by
        rw [madeN_succ, HGQ3.out, HGQ2.out, HGQ1.out, ← HGQ.out, ← HRQ.out])
      go_wp2_with fail
      go_roundw
      case rel => exact ⟨i + 1, _, by go_num, by omega, by rw [← hW16, ← HEQ.out]; exact HG16.out, by rw [← hW16]; exact HB16.out⟩
      case measure => simp [intOf]; omega
    · have t1 : decide ((i : Int) < (n : Int)) = false := decide_eq_false (by omega)
      have t1n : decide (i < n) = false := decide_eq_false hil
      have hin : i = n := by omega
      subst hin
      go_wp2
      go_ret
      exact ⟨_, M, rfl, by rw [← HWO.out]; exact HG.out, by rw [← HWO.out]; exact HBE.out⟩
end
end Go.Proofs.YtogcnfhmcpkdcaaGreat
