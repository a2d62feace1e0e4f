/-
  Walks of a group of one: a step (it begins anew; it compacts).
  Walks of a group of one: twenty ticks, behind which it leads.
  The law RaftAlone: the walk.
-/
import Derived.Test.YtogcnfhmcpkdcaaGreatGrA
import Derived.Test.YtogcnfhmcpkdcaaGreatRaftN9
import Derived.Test.YtogcnfhmcpkdcaaGreatOpenAl
import Derived.Test.YtogcnfhmcpkdcaaGreatLaw18a
namespace Go.Proofs.YtogcnfhmcpkdcaaGreat
open Go.RowKit
set_option linter.unusedVariables false
set_option linter.unusedSimpArgs false

section
variable {w w' w1 : World} {B g c : Nat} {G : PGroup} {M : GMem} {i : Nat}
theorem one_map {α β : Type} {f : α → β} {l : List α} {y : β} (h : l.map f = [y]) : ∃ x, l = [x] ∧ f x = y := by
  cases l with
  | nil => cases h
  | cons x l =>
    cases l with
    | nil => exact ⟨x, rfl, by injection h⟩
    | cons z l => cases h
/-- what the drawn region of a loading reads -/
structure LzS (g b0 cap0 b1 cap1 b2 cap2 : Nat) (v1 v2 : Value) (W : World) : Prop where
  s : g < W.heap.size
  c0 : W.cell? ⟨g, 0, none⟩ = some (.slice (some ⟨b0, 0, none⟩) 1 cap0)
  c1 : W.cell? ⟨g, 1, none⟩ = some (.slice (some ⟨b1, 0, none⟩) 1 cap1)
  k1 : W.cell? ⟨b1, 0, none⟩ = some v1
  c2 : W.cell? ⟨g, 2, none⟩ = some (.slice (some ⟨b2, 0, none⟩) 1 cap2)
  k2 : W.cell? ⟨b2, 0, none⟩ = some v2
theorem LzS.below {b0 cap0 b1 cap1 b2 cap2 : Nat} {v1 v2 : Value} (h : LzS g b0 cap0 b1 cap1 b2 cap2 v1 v2 w) (hb : Below w.heap.size w w') : LzS g b0 cap0 b1 cap1 b2 cap2 v1 v2 w' :=
  ⟨Nat.lt_of_lt_of_le h.s hb.size, (hb.cell (p := ⟨g, 0, none⟩) h.s).trans h.c0, (hb.cell (p := ⟨g, 1, none⟩) h.s).trans h.c1, (hb.cell (p := ⟨b1, 0, none⟩) (cell_lt9 h.k1)).trans h.k1, (hb.cell (p := ⟨g, 2, none⟩) h.s).trans h.c2, (hb.cell (p := ⟨b2, 0, none⟩) (cell_lt9 h.k2)).trans h.k2⟩

set_option maxRecDepth 100000 in
set_option maxHeartbeats 2000000 in
theorem l18step5 {N : RMem} {p : Nat} {R : PRaft} (h : One w B g G M p N R) {Rb : PRaft} {hd : List UInt8} {ns : List (List UInt8)} {a : Int} (hhd : G.hd = [hd]) (hnt : G.nt = [ns]) (hat : G.ats = [a]) (hl : loadP 0 1 hd ns = some Rb) (hnw : Rb.news = []) (hc : Col { G with rs := [Rb], ats := [Rb.line.base] } 0 Rb) :
    Calls Tryz.prog 24 #[.pointer (some ⟨g, 0, none⟩), .agg #[.int .i64 5, .int .i64 0, .int .i64 0, .slice none 0 0]] w (fun e w' => ∃ p', StepTo B g p' (({ G with rs := [Rb], ats := [Rb.line.base] } : PGroup).collected 0 Rb) w e w') := by
  have hnl : ns.length ≤ 10000000 := by
    have h9 := hc.nl
    have h8 : G.nt.getD 0 [] = ns := by rw [hnt]; rfl
    rw [← h8]; exact h9
  obtain ⟨W1, hW1⟩ : ∃ W1, W1 = w.alloc (.cells #[.int .i64 5, .int .i64 0, .int .i64 0, .slice none 0 0] 60) := ⟨_, rfl⟩
  have hb1 : Below w.heap.size w W1 := by rw [hW1]; exact (Below.refl _ _).alloc (Nat.le_refl _) _
  have hrow1 : W1.heap[w.heap.size]? = some (.cells #[.int .i64 5, .int .i64 0, .int .i64 0, .slice none 0 0] 60 (0, 0)) := by rw [hW1]; exact heap_alloc_new w _
  have HBW := Lib.hid (hb1.mono h.gr.bs)
  have H1 := Lib.hid (h.below hb1)
  obtain ⟨b0, c0, cp, c4⟩ := H1.out.cells
  have d0 : W1.cell? ⟨w.heap.size, 0, none⟩ = some (.int .i64 5) := by rw [cell_of_row _ _ 0 _ _ _ hrow1]; rfl
  have d1 : W1.cell? ⟨w.heap.size, 1, none⟩ = some (.int .i64 0) := by rw [cell_of_row _ _ 1 _ _ _ hrow1]; rfl
  have d2 : W1.cell? ⟨w.heap.size, 2, none⟩ = some (.int .i64 0) := by rw [cell_of_row _ _ 2 _ _ _ hrow1]; rfl
  have d3 : W1.cell? ⟨w.heap.size, 3, none⟩ = some (.slice none 0 0) := by rw [cell_of_row _ _ 3 _ _ _ hrow1]; rfl
  have HC := Lib.hid hc
  have HW1 := Lib.hid hW1
  have HROW := Lib.hid hrow1
  clear hc hb1 hrow1 hW1
  go_enter Tryz.func24, Tryz.ntmps24
  go_wp2_with fail
  rw [← HW1.out]
  go_quiet (first | (go_at_call 58; refine Calls.quiet_of_same (r1Pick1 _)))
  obtain ⟨W2, hW2⟩ : ∃ W2, W2 = W1.drewN nq := ⟨_, rfl⟩
  rw [← hW2]
  have hb2 : Below W1.heap.size W1 W2 := by rw [hW2]; exact below_drewN W1 nq
  have H2 := Lib.hid (H1.out.below hb2)
  have hrow2 := (hb2.block w.heap.size (Array.getElem?_eq_some_iff.1 HROW.out).1).trans HROW.out
  have HB2 := Lib.hid (HBW.out.trans (hb2.mono H1.out.gr.bs))
  have HB12 := Lib.hid hb2
  replace c0 := (hb2.cell (p := ⟨g, 0, none⟩) (cell_lt9 c0)).trans c0
  replace cp := (hb2.cell (p := ⟨b0, 0, none⟩) (cell_lt9 cp)).trans cp
  replace c4 := (hb2.cell (p := ⟨g, 4, none⟩) (cell_lt9 c4)).trans c4
  replace d2 := (hb2.cell (p := ⟨w.heap.size, 2, none⟩) (cell_lt9 d2)).trans d2
  clear d0 d1 d3 hb2 hW2
  have HROW2 := Lib.hid hrow2
  clear hrow2
  go_wp2_with fail
  go_quiet (first | (go_at_call 58; refine Calls.quiet_of_same (r1Pick0 _)))
  obtain ⟨W3, hW3⟩ : ∃ W3, W3 = W2.drewN nq := ⟨_, rfl⟩
  have hb3 : Below W2.heap.size W2 W3 := by rw [hW3]; exact below_drewN W2 nq
  rw [← hW3]
  have H3 := Lib.hid (H2.out.below hb3)
  have HB3 := Lib.hid (HB2.out.trans (hb3.mono H2.out.gr.bs))
  have hrow3 : W3.heap[w.heap.size]? = some (.cells #[.int .i64 5, .int .i64 0, .int .i64 0, .slice none 0 0] 60 (0, 0)) := (hb3.block w.heap.size (Array.getElem?_eq_some_iff.1 HROW2.out).1).trans HROW2.out
  have hg3 := H3.out.gr.lt (x := .g) rfl
  replace c0 := (hb3.cell (p := ⟨g, 0, none⟩) (cell_lt9 c0)).trans c0
  replace cp := (hb3.cell (p := ⟨b0, 0, none⟩) (cell_lt9 cp)).trans cp
  clear c4 d2 hb3 hW3
  have d0 : W3.cell? ⟨w.heap.size, 0, none⟩ = some (.int .i64 5) := by rw [cell_of_row _ _ 0 _ _ _ hrow3]; rfl
  have d3 : W3.cell? ⟨w.heap.size, 3, none⟩ = some (.slice none 0 0) := by rw [cell_of_row _ _ 3 _ _ _ hrow3]; rfl
  obtain ⟨mh, hmh, hmb⟩ := one_map (H3.out.gr.ct.hq.trans hhd)
  obtain ⟨mt, hmt, hmn⟩ := one_map (H3.out.gr.ct.tq.trans hnt)
  have hmn : mt.ns.map MNote.b = ns := hmn
  obtain ⟨q0, hq01, hq02, hq03, -, -⟩ := H3.out.row (j := 0) (by omega) (by show M.ps.length = 1; rw [H3.out.gr.rl, H3.out.rs]; rfl) rfl
  obtain ⟨q1, hq11, hq12, hq13, -, -⟩ := H3.out.row (j := 1) (by omega) (by show M.hs.length = 1; rw [hmh]; rfl) rfl
  obtain ⟨q2, hq21, hq22, hq23, -, -⟩ := H3.out.row (j := 2) (by omega) (by show M.ts.length = 1; rw [hmt]; rfl) rfl
  have HS3 := Lib.hid (show LzS g q0 (M.rc 0) q1 (M.rc 1) q2 (M.rc 2) (.slice mh.a mh.b.length mh.c) (.slice mt.a mt.ns.length mt.c) W3 from ⟨hg3, hq02, hq12, by rw [hq13]; show (M.hs.map MNote.cell)[0]? = _; rw [hmh]; rfl, hq22, by rw [hq23]; show (M.ts.map MNts.cell)[0]? = _; rw [hmt]; rfl⟩)
  have HLD := Lib.hid hl
  have HMB := Lib.hid hmb
  have HMN := Lib.hid hmn
  have HMH := Lib.hid hmh
  have HMT := Lib.hid hmt
  have HQ01 := Lib.hid hq01
  have HAT := Lib.hid hat
  have hnl2 : mt.ns.length ≤ 1000000000 := by
    have h9 := congrArg List.length hmn
    rw [List.length_map] at h9
    omega
  clear hq01 hq02 hq03 hq11 hq12 hq13 hq21 hq22 hq23 c0 cp d3 hg3 hrow3 hl hmb hmn hmh hmt hhd hnt hat
  go_wp2_with fail
  clear d0
  refine wp_region_any (by kernel_rfl) ?_
  refine wpAny_of_held (S := LzS g q0 (M.rc 0) q1 (M.rc 1) q2 (M.rc 2) (.slice mh.a mh.b.length mh.c) (.slice mt.a mt.ns.length mt.c)) _ _ _ _ ?_
  obtain ⟨W4, hW4⟩ : ∃ W4, W4 = W3.drew := ⟨_, rfl⟩
  have hdr : Below W3.heap.size W3 W4 := by rw [hW4]; exact (Below.refl _ _).drew
  (refine (show wpAnyH _ _ _ _ _ _ _ _ W3.drew from ?_))
  rw [← hW4]
  clear hW4
  have H4 := Lib.hid (H3.out.below hdr)
  have hS : LzS g q0 (M.rc 0) q1 (M.rc 1) q2 (M.rc 2) (.slice mh.a mh.b.length mh.c) (.slice mt.a mt.ns.length mt.c) W4 := HS3.out.below hdr
  refine heldTake 0 136 rfl rfl (by kernel_rfl) (by kernel_rfl) (by kernel_rfl) (fun _ _ _ h => h) hS (.inl ⟨by rfl, by intro w' hS; obtain ⟨s1, s2, s3, s4, s5, s6⟩ := hS; go_simp; (try rfl)⟩) ?_
  simp only [List.set_cons_zero, List.set_cons_succ]
  refine heldTake 1 137 rfl rfl (by kernel_rfl) (by kernel_rfl) (by kernel_rfl) (fun _ _ _ h => h) hS (.inl ⟨by rfl, by intro w' hS; obtain ⟨s1, s2, s3, s4, s5, s6⟩ := hS; go_simp; (try rfl)⟩) ?_
  simp only [List.set_cons_zero, List.set_cons_succ]
  refine heldTake 6 142 rfl rfl (by kernel_rfl) (by kernel_rfl) (by kernel_rfl) (fun _ _ _ h => h) hS (.inl ⟨by rfl, by intro w' hS; obtain ⟨s1, s2, s3, s4, s5, s6⟩ := hS; go_simp; (try rfl)⟩) ?_
  simp only [List.set_cons_zero, List.set_cons_succ]
  refine heldTake 10 146 rfl rfl (by kernel_rfl) (by kernel_rfl) (by kernel_rfl) (fun _ _ _ h => h) hS (.inl ⟨by rfl, by intro w' hS; obtain ⟨s1, s2, s3, s4, s5, s6⟩ := hS; go_simp; (try rfl)⟩) ?_
  simp only [List.set_cons_zero, List.set_cons_succ]
  refine heldTake 13 149 rfl rfl (by kernel_rfl) (by kernel_rfl) (by kernel_rfl) (fun _ _ _ h => h) hS (.inl ⟨by rfl, by intro w' hS; obtain ⟨s1, s2, s3, s4, s5, s6⟩ := hS; go_simp; (try rfl)⟩) ?_
  simp only [List.set_cons_zero, List.set_cons_succ]
  refine heldTake 17 153 rfl rfl (by kernel_rfl) (by kernel_rfl) (by kernel_rfl) (fun _ _ _ h => h) hS (.inl ⟨by rfl, by intro w' hS; obtain ⟨s1, s2, s3, s4, s5, s6⟩ := hS; go_simp; (try rfl)⟩) ?_
  simp only [List.set_cons_zero, List.set_cons_succ]
  refine heldTake 2 138 rfl rfl (by kernel_rfl) (by kernel_rfl) (by kernel_rfl) (fun _ _ _ h => h) hS (.inl ⟨by rfl, by intro w' hS; obtain ⟨s1, s2, s3, s4, s5, s6⟩ := hS; go_simp; (try rfl)⟩) ?_
  simp only [List.set_cons_zero, List.set_cons_succ]
  refine heldTake 7 143 rfl rfl (by kernel_rfl) (by kernel_rfl) (by kernel_rfl) (fun _ _ _ h => h) hS (.inl ⟨by rfl, by intro w' hS; obtain ⟨s1, s2, s3, s4, s5, s6⟩ := hS; go_simp; (try rfl)⟩) ?_
  simp only [List.set_cons_zero, List.set_cons_succ]
  refine heldTake 14 150 rfl rfl (by kernel_rfl) (by kernel_rfl) (by kernel_rfl) (fun _ _ _ h => h) hS (.inl ⟨by rfl, by intro w' hS; obtain ⟨s1, s2, s3, s4, s5, s6⟩ := hS; go_simp; (try rfl)⟩) ?_
  simp only [List.set_cons_zero, List.set_cons_succ]
  refine heldTake 3 139 rfl rfl (by kernel_rfl) (by kernel_rfl) (by kernel_rfl) (fun _ _ _ h => h) hS (.inl ⟨by rfl, by intro w' hS; obtain ⟨s1, s2, s3, s4, s5, s6⟩ := hS; go_simp; (try rfl)⟩) ?_
  simp only [List.set_cons_zero, List.set_cons_succ]
  refine heldTake 8 144 rfl rfl (by kernel_rfl) (by kernel_rfl) (by kernel_rfl) (fun _ _ _ h => h) hS (.inl ⟨by rfl, by intro w' hS; obtain ⟨s1, s2, s3, s4, s5, s6⟩ := hS; go_simp; (try rfl)⟩) ?_
  simp only [List.set_cons_zero, List.set_cons_succ]
  refine heldTake 15 151 rfl rfl (by kernel_rfl) (by kernel_rfl) (by kernel_rfl) (fun _ _ _ h => h) hS (.inl ⟨by rfl, by intro w' hS; obtain ⟨s1, s2, s3, s4, s5, s6⟩ := hS; go_simp; (try rfl)⟩) ?_
  simp only [List.set_cons_zero, List.set_cons_succ]
  refine heldTake 4 140 rfl rfl (by kernel_rfl) (by kernel_rfl) (by kernel_rfl) (fun _ _ _ h => h) hS (.inl ⟨by rfl, by intro w' hS; obtain ⟨s1, s2, s3, s4, s5, s6⟩ := hS; go_simp; (try rfl)⟩) ?_
  simp only [List.set_cons_zero, List.set_cons_succ]
  refine heldTake 9 145 rfl rfl (by kernel_rfl) (by kernel_rfl) (by kernel_rfl) (fun _ _ _ h => h) hS (.inl ⟨by rfl, by intro w' hS; obtain ⟨s1, s2, s3, s4, s5, s6⟩ := hS; go_simp; (try rfl)⟩) ?_
  simp only [List.set_cons_zero, List.set_cons_succ]
  refine heldTake 16 152 rfl rfl (by kernel_rfl) (by kernel_rfl) (by kernel_rfl) (fun _ _ _ h => h) hS (.inl ⟨by rfl, by intro w' hS; obtain ⟨s1, s2, s3, s4, s5, s6⟩ := hS; go_simp; (try rfl)⟩) ?_
  simp only [List.set_cons_zero, List.set_cons_succ]
  refine heldTake 5 141 rfl rfl (by kernel_rfl) (by kernel_rfl) (by kernel_rfl) (fun _ _ _ h => h) hS (.inl ⟨by rfl, by intro w' hS; obtain ⟨s1, s2, s3, s4, s5, s6⟩ := hS; go_simp; (try rfl)⟩) ?_
  simp only [List.set_cons_zero, List.set_cons_succ]
  refine heldTake 11 147 rfl rfl (by kernel_rfl) (by kernel_rfl) (by kernel_rfl) (fun _ _ _ h => h) hS (.inl ⟨by rfl, by intro w' hS; obtain ⟨s1, s2, s3, s4, s5, s6⟩ := hS; go_simp; (try rfl)⟩) ?_
  simp only [List.set_cons_zero, List.set_cons_succ]
  refine heldTake 18 154 rfl rfl (by kernel_rfl) (by kernel_rfl) (by kernel_rfl) (fun _ _ _ h => h) hS (.inl ⟨by rfl, by intro w' hS; obtain ⟨s1, s2, s3, s4, s5, s6⟩ := hS; go_simp; (try rfl)⟩) ?_
  simp only [List.set_cons_zero, List.set_cons_succ]
  refine heldTake 12 148 rfl rfl (by kernel_rfl) (by kernel_rfl) (by kernel_rfl) (fun _ _ _ h => h) hS (.inl ⟨by rfl, by intro w' hS; obtain ⟨s1, s2, s3, s4, s5, s6⟩ := hS; go_simp; (try rfl)⟩) ?_
  simp only [List.set_cons_zero, List.set_cons_succ]
  refine heldTake 19 155 rfl rfl (by kernel_rfl) (by kernel_rfl) (by kernel_rfl) (fun _ _ _ h => h) hS (.inl ⟨by rfl, by intro w' hS; obtain ⟨s1, s2, s3, s4, s5, s6⟩ := hS; go_simp; (try rfl)⟩) ?_
  simp only [List.set_cons_zero, List.set_cons_succ]
  have HSX := Lib.hid hS
  clear hS
  have hbh := H4.out.gr.ct.hb mh (by rw [HMH.out]; simp)
  have hsn : SlAt W4 W4.heap.size 1 mt.a mt.ns.length mt.c (mt.ns.map MNote.cell) := by
    obtain ⟨a9, c9, e9, h9⟩ := SlAt.ofOwns (H4.out.gr.ct.tr mt (by rw [HMT.out]; simp))
    injection e9 with e1 _ e3
    subst e1 e3
    exact h9
  have hbn := H4.out.gr.ct.tb mt (by rw [HMT.out]; simp)
  refine heldOne 20 (by kernel_rfl) rfl (by rfl) ?_
  go_simp
  refine (raftLoad 0 1 (by omega) (by omega) (by omega) (by omega) mh.b mh.a mh.c mt.ns mt.a mt.c hnl2 _ hbh.1 hsn (fun m hm => (hbn m hm).1)).mono ?_
  intro e w5 h5
  unfold LdTo at h5
  rw [HMB.out, HMN.out, HLD.out] at h5
  obtain ⟨hb5, p', N', rfl, hr5, hf5⟩ := h5
  have hS5 := HSX.out.below hb5
  have H5 := Lib.hid (H4.out.below hb5)
  have HR5 := Lib.hid hr5
  have HF5 := Lib.hid hf5
  have HB5 := Lib.hid (HB3.out.trans ((hdr.trans (hb5.mono hdr.size)).mono H3.out.gr.bs))
  have HN5 := Lib.hid (show N'.ps = [] by
    have h9 := hr5.po.q
    rw [HC.out.out] at h9
    exact List.map_eq_nil_iff.1 h9)
  refine ⟨hS5, ?_⟩
  refine heldTake 21 135 rfl rfl (by kernel_rfl) (by kernel_rfl) (by kernel_rfl) (fun _ _ _ h => h) hS5 (.inl ⟨by rfl, by intro w' hS; obtain ⟨s1, s2, s3, s4, s5, s6⟩ := hS; go_simp; (try rfl)⟩) ?_
  simp only [List.set_cons_zero, List.set_cons_succ]
  refine heldTake 22 157 rfl rfl (by kernel_rfl) (by kernel_rfl) (by kernel_rfl) (fun _ _ _ h => h) hS5 (.inl ⟨by rfl, by intro w' hS; obtain ⟨s1, s2, s3, s4, s5, s6⟩ := hS; go_simp; (try rfl)⟩) ?_
  simp only [List.set_cons_zero, List.set_cons_succ]
  refine heldTake 23 158 rfl rfl (by kernel_rfl) (by kernel_rfl) (by kernel_rfl) (fun _ _ _ h => h) hS5 (.inl ⟨by rfl, by intro w' hS; obtain ⟨s1, s2, s3, s4, s5, s6⟩ := hS; go_simp; (try rfl)⟩) ?_
  simp only [List.set_cons_zero, List.set_cons_succ]
  refine heldTake 24 7 rfl rfl (by kernel_rfl) (by kernel_rfl) (by kernel_rfl) (fun _ _ _ h => h) hS5 (.inl ⟨by rfl, by intro w' hS; obtain ⟨s1, s2, s3, s4, s5, s6⟩ := hS; go_simp; (try rfl)⟩) ?_
  simp only [List.set_cons_zero, List.set_cons_succ]
  refine heldTake 25 8 rfl rfl (by kernel_rfl) (by kernel_rfl) (by kernel_rfl) (fun _ _ _ h => h) hS5 (.inl ⟨by rfl, by intro w' hS; obtain ⟨s1, s2, s3, s4, s5, s6⟩ := hS; go_simp; (try rfl)⟩) ?_
  simp only [List.set_cons_zero, List.set_cons_succ]
  refine wpAnyH_done (by kernel_rfl) ?_ _
  clear hS5 hb5 hr5 hf5 hbh hsn hbn hdr
  obtain ⟨s0, hs01, c0, cp, fp, -⟩ := H5.out.row (j := 0) (by omega) (by show M.ps.length = 1; rw [H5.out.gr.rl, H5.out.rs]; rfl) rfl
  have hqs : s0 = q0 := by
    rw [HQ01.out] at hs01; injection hs01 with e; injection e with e; exact e.symm
  subst hqs
  have hpl : M.ps.length = 1 := by rw [H5.out.gr.rl, H5.out.rs]; rfl
  obtain ⟨V, hV⟩ : ∃ V, V = w5.setCell ⟨s0, 0, none⟩ (.pointer (some ⟨p', 0, none⟩)) := ⟨_, rfl⟩
  have hg6 := H5.out.gr.setPtr (i := 0) (b := s0) (cap := M.rc 0) (by omega) (by show Value.slice (M.ra 0) M.ps.length (M.rc 0) = _; rw [hs01]) HR5.out HN5.out (fun k hk => H4.out.gr.free (HF5.out k hk))
  rw [← hV, H5.out.rs] at hg6
  replace hg6 : GrAt V B g 0 { G with rs := [Rb] } { M with ps := M.ps.set 0 (p', N') } := hg6
  have hq6 : (M.ps.set 0 (p', N'))[0]? = some (p', N') := by rw [set_get (by omega), if_pos rfl]
  have H6 := Lib.hid (show One V B g { G with rs := [Rb] } { M with ps := M.ps.set 0 (p', N') } p' N' Rb from ⟨hg6, rfl, H5.out.bag, hq6, HC.out.ok, hnw, HC.out.out⟩)
  have HB6 := Lib.hid (show Below B w V from HB5.out.trans (by rw [hV]; exact below_set (H5.out.gr.inn (.row 0) s0 ⟨by omega, by rw [hs01]; rfl⟩) _))
  have HV := Lib.hid hV
  replace cp : w5.cell? ⟨s0, 0, none⟩ = some (.pointer (some ⟨p, 0, none⟩)) := by
    rw [cp]; show (M.ps.map ptrOf)[0]? = _; rw [List.getElem?_map, H5.out.q]; rfl
  clear hg6 hV hs01
  go_wp2_with fail
  rw [← HV.out]
  refine (raftLine HC.out.ok.line H6.out.rf).mono ?_
  rintro e w7 ⟨q7, la7, lc7, rfl, hln7, hb7, hq7⟩
  have HLN := Lib.hid hln7
  have H7 := Lib.hid (H6.out.below hb7)
  have HB7 := Lib.hid (HB6.out.trans (hb7.mono H6.out.gr.bs))
  clear hln7 hb7 c0 cp fp
  go_wp2_with fail
  refine (lineBase _ q7 Rb.line la7 lc7 N'.ms _ HLN.out).mono ?_
  rintro e w8 ⟨rfl, m8, hm8⟩
  have hb8 : Below w7.heap.size w7 w8 := by rw [hm8]; exact below_drewN w7 m8
  have H8 := Lib.hid (H7.out.below hb8)
  have HB8 := Lib.hid (HB7.out.trans (hb8.mono H7.out.gr.bs))
  obtain ⟨s3, hs31, c3, k3, f3, -⟩ := H8.out.row (j := 3) (by omega) (by show G.ats.length = 1; rw [HAT.out]; rfl) rfl
  replace k3 : w8.cell? ⟨s3, 0, none⟩ = some (.int .i64 a) := by
    rw [k3]; show (G.ats.map iz)[0]? = _; rw [HAT.out]; rfl
  obtain ⟨V9, hV9⟩ : ∃ V9, V9 = w8.setCell ⟨s3, 0, none⟩ (.int .i64 Rb.line.base) := ⟨_, rfl⟩
  have hg9 := H8.out.gr.setAt (i := 0) (b := s3) (cap := M.rc 3) (by show 0 < G.ats.length; rw [HAT.out]; simp) (by show Value.slice (M.ra 3) G.ats.length (M.rc 3) = _; rw [show M.ra 3 = some ⟨s3, 0, none⟩ from hs31]) Rb.line.base
  have hiz : iz Rb.line.base = .int .i64 Rb.line.base := rfl
  rw [hiz, ← hV9] at hg9
  replace hg9 : GrAt V9 B g 0 { G with rs := [Rb], ats := [Rb.line.base] } { M with ps := M.ps.set 0 (p', N') } := by
    have e : ({ G with rs := [Rb], ats := G.ats.set 0 Rb.line.base } : PGroup) = { G with rs := [Rb], ats := [Rb.line.base] } := by rw [HAT.out]; rfl
    rw [← e]; exact hg9
  have HG9 := Lib.hid hg9
  have HB9 := Lib.hid (show Below B w V9 from HB8.out.trans (by rw [hV9]; exact below_set (H8.out.gr.inn (.row 3) s3 ⟨by omega, by show (M.ra 3).map (·.block) = _; rw [show M.ra 3 = some ⟨s3, 0, none⟩ from hs31]; rfl⟩) _))
  have HV9 := Lib.hid hV9
  clear hb8 hm8 hg9 hV9 hs31
  go_wp2_with fail
  rw [← HV9.out]
  refine (l18collect1 HG9.out hq6 HC.out).mono ?_
  rintro e w10 ⟨rfl, M6, N6, hg10, hp10, hn10, hb10⟩
  have HF := Lib.hid hg10
  have HFB := Lib.hid (HB9.out.trans hb10)
  clear hg10 hb10
  go_wp2_with fail
  go_end0
  exact ⟨p', rfl, M6, N6, HF.out, hp10, hn10, HFB.out⟩
theorem infoBytes1 : (Tryz.prog.info? 27).map (·.size) = some 1 := by kernel_rfl
/-- the two bytes of an index, as the law lays them -/
def atBytes (a : Nat) : List UInt8 := [UInt8.ofNat (a / 256), UInt8.ofNat a]
/-- what the drawn region of a compacting reads -/
structure CzS (g b0 cap0 p b3 cap3 : Nat) (a : Nat) (W : World) : Prop where
  s : g < W.heap.size
  c0 : W.cell? ⟨g, 0, none⟩ = some (.slice (some ⟨b0, 0, none⟩) 1 cap0)
  cp : W.cell? ⟨b0, 0, none⟩ = some (.pointer (some ⟨p, 0, none⟩))
  c3 : W.cell? ⟨g, 3, none⟩ = some (.slice (some ⟨b3, 0, none⟩) 1 cap3)
  k3 : W.cell? ⟨b3, 0, none⟩ = some (.int .i64 a)
theorem CzS.below {b0 cap0 p b3 cap3 a : Nat} (h : CzS g b0 cap0 p b3 cap3 a w) (hb : Below w.heap.size w w') : CzS g b0 cap0 p b3 cap3 a w' :=
  ⟨Nat.lt_of_lt_of_le h.s hb.size, (hb.cell (p := ⟨g, 0, none⟩) h.s).trans h.c0, (hb.cell (p := ⟨b0, 0, none⟩) (cell_lt9 h.cp)).trans h.cp, (hb.cell (p := ⟨g, 3, none⟩) h.s).trans h.c3, (hb.cell (p := ⟨b3, 0, none⟩) (cell_lt9 h.k3)).trans h.k3⟩
theorem CzS.touch {b0 cap0 p b3 cap3 a : Nat} {N N' : RMem} (h : CzS g b0 cap0 p b3 cap3 a w) (ht : RTouch p N N' w w') (h1 : ¬ N.own p g) (h2 : ¬ N.own p b0) (h3 : ¬ N.own p b3) : CzS g b0 cap0 p b3 cap3 a w' :=
  ⟨Nat.lt_of_lt_of_le h.s ht.size, (ht.cell h.s h1).trans h.c0, (ht.cell (cell_lt9 h.cp) h2).trans h.cp, (ht.cell h.s h1).trans h.c3, (ht.cell (cell_lt9 h.k3) h3).trans h.k3⟩
/-- what the drawn region reads that lays a head -/
structure HzS (g b0 cap0 p b1 cap1 : Nat) (W : World) : Prop where
  s : g < W.heap.size
  c0 : W.cell? ⟨g, 0, none⟩ = some (.slice (some ⟨b0, 0, none⟩) 1 cap0)
  cp : W.cell? ⟨b0, 0, none⟩ = some (.pointer (some ⟨p, 0, none⟩))
  c1 : W.cell? ⟨g, 1, none⟩ = some (.slice (some ⟨b1, 0, none⟩) 1 cap1)
theorem HzS.below {b0 cap0 p b1 cap1 : Nat} (h : HzS g b0 cap0 p b1 cap1 w) (hb : Below w.heap.size w w') : HzS g b0 cap0 p b1 cap1 w' :=
  ⟨Nat.lt_of_lt_of_le h.s hb.size, (hb.cell (p := ⟨g, 0, none⟩) h.s).trans h.c0, (hb.cell (p := ⟨b0, 0, none⟩) (cell_lt9 h.cp)).trans h.cp, (hb.cell (p := ⟨g, 1, none⟩) h.s).trans h.c1⟩
theorem HzS.set {b0 cap0 p b1 cap1 b j : Nat} {v : Value} (h : HzS g b0 cap0 p b1 cap1 w) (h1 : b ≠ g) (h2 : b ≠ b0) : HzS g b0 cap0 p b1 cap1 (w.setCell ⟨b, j, none⟩ v) :=
  ⟨by have h9 := h.s; simpa using h9, (cell_far9 (Below.heap_setCell _ _ _ _ (Ne.symm h1))).trans h.c0, (cell_far9 (Below.heap_setCell _ _ _ _ (Ne.symm h2))).trans h.cp, (cell_far9 (Below.heap_setCell _ _ _ _ (Ne.symm h1))).trans h.c1⟩

set_option maxRecDepth 100000 in
set_option maxHeartbeats 2000000 in
theorem l18step6 {N : RMem} {p : Nat} {R : PRaft} (h : One w B g G M p N R) {a : Nat} {hd : List UInt8} {ns : List (List UInt8)} (hhd : G.hd = [hd]) (hnt : G.nt = [ns]) (hat : G.ats = [(a : Int)]) (ha : a ≤ 10000) (hcy : (R.compact (atBytes a)).2 = true) (hput : (R.compact (atBytes a)).1.line.put.length ≤ 900000) (hsl : (R.compact (atBytes a)).1.state.length ≤ 70000) (hnw : (R.compact (atBytes a)).1.news = []) (hc : Col { G with rs := [(R.compact (atBytes a)).1], hd := [(R.compact (atBytes a)).1.head], nt := [[]] } 0 (R.compact (atBytes a)).1) :
    Calls Tryz.prog 24 #[.pointer (some ⟨g, 0, none⟩), .agg #[.int .i64 6, .int .i64 0, .int .i64 0, .slice none 0 0]] w (StepTo B g p (({ G with rs := [(R.compact (atBytes a)).1], hd := [(R.compact (atBytes a)).1.head], nt := [[]] } : PGroup).collected 0 (R.compact (atBytes a)).1) w) := by
  obtain ⟨W1, hW1⟩ : ∃ W1, W1 = w.alloc (.cells #[.int .i64 6, .int .i64 0, .int .i64 0, .slice none 0 0] 60) := ⟨_, rfl⟩
  have hb1 : Below w.heap.size w W1 := by rw [hW1]; exact (Below.refl _ _).alloc (Nat.le_refl _) _
  have hrow1 : W1.heap[w.heap.size]? = some (.cells #[.int .i64 6, .int .i64 0, .int .i64 0, .slice none 0 0] 60 (0, 0)) := by rw [hW1]; exact heap_alloc_new w _
  have HBW := Lib.hid (hb1.mono h.gr.bs)
  have H1 := Lib.hid (h.below hb1)
  obtain ⟨b0, c0, cp, c4⟩ := H1.out.cells
  have d0 : W1.cell? ⟨w.heap.size, 0, none⟩ = some (.int .i64 6) := by rw [cell_of_row _ _ 0 _ _ _ hrow1]; rfl
  have d1 : W1.cell? ⟨w.heap.size, 1, none⟩ = some (.int .i64 0) := by rw [cell_of_row _ _ 1 _ _ _ hrow1]; rfl
  have d2 : W1.cell? ⟨w.heap.size, 2, none⟩ = some (.int .i64 0) := by rw [cell_of_row _ _ 2 _ _ _ hrow1]; rfl
  have d3 : W1.cell? ⟨w.heap.size, 3, none⟩ = some (.slice none 0 0) := by rw [cell_of_row _ _ 3 _ _ _ hrow1]; rfl
  have HC := Lib.hid hc
  have HW1 := Lib.hid hW1
  have HROW := Lib.hid hrow1
  clear hc hb1 hrow1 hW1
  go_enter Tryz.func24, Tryz.ntmps24
  go_wp2_with fail
  rw [← HW1.out]
  go_quiet (first | (go_at_call 58; refine Calls.quiet_of_same (r1Pick1 _)))
  obtain ⟨W2, hW2⟩ : ∃ W2, W2 = W1.drewN nq := ⟨_, rfl⟩
  rw [← hW2]
  have hb2 : Below W1.heap.size W1 W2 := by rw [hW2]; exact below_drewN W1 nq
  have H2 := Lib.hid (H1.out.below hb2)
  have hrow2 := (hb2.block w.heap.size (Array.getElem?_eq_some_iff.1 HROW.out).1).trans HROW.out
  have HB2 := Lib.hid (HBW.out.trans (hb2.mono H1.out.gr.bs))
  have HB12 := Lib.hid hb2
  replace c0 := (hb2.cell (p := ⟨g, 0, none⟩) (cell_lt9 c0)).trans c0
  replace cp := (hb2.cell (p := ⟨b0, 0, none⟩) (cell_lt9 cp)).trans cp
  replace c4 := (hb2.cell (p := ⟨g, 4, none⟩) (cell_lt9 c4)).trans c4
  replace d2 := (hb2.cell (p := ⟨w.heap.size, 2, none⟩) (cell_lt9 d2)).trans d2
  clear d0 d1 d3 hb2 hW2
  have HROW2 := Lib.hid hrow2
  clear hrow2
  go_wp2_with fail
  go_quiet (first | (go_at_call 58; refine Calls.quiet_of_same (r1Pick0 _)))
  obtain ⟨W3, hW3⟩ : ∃ W3, W3 = W2.drewN nq := ⟨_, rfl⟩
  have hb3 : Below W2.heap.size W2 W3 := by rw [hW3]; exact below_drewN W2 nq
  rw [← hW3]
  have H3 := Lib.hid (H2.out.below hb3)
  have HB3 := Lib.hid (HB2.out.trans (hb3.mono H2.out.gr.bs))
  have hrow3 : W3.heap[w.heap.size]? = some (.cells #[.int .i64 6, .int .i64 0, .int .i64 0, .slice none 0 0] 60 (0, 0)) := (hb3.block w.heap.size (Array.getElem?_eq_some_iff.1 HROW2.out).1).trans HROW2.out
  have hg3 := H3.out.gr.lt (x := .g) rfl
  replace c0 := (hb3.cell (p := ⟨g, 0, none⟩) (cell_lt9 c0)).trans c0
  replace cp := (hb3.cell (p := ⟨b0, 0, none⟩) (cell_lt9 cp)).trans cp
  clear c4 d2 hb3 hW3
  have d0 : W3.cell? ⟨w.heap.size, 0, none⟩ = some (.int .i64 6) := by rw [cell_of_row _ _ 0 _ _ _ hrow3]; rfl
  have d3 : W3.cell? ⟨w.heap.size, 3, none⟩ = some (.slice none 0 0) := by rw [cell_of_row _ _ 3 _ _ _ hrow3]; rfl
  obtain ⟨mh, hmh, hmb⟩ := one_map (H3.out.gr.ct.hq.trans hhd)
  obtain ⟨mt, hmt, hmn⟩ := one_map (H3.out.gr.ct.tq.trans hnt)
  obtain ⟨q0, hq01, hq02, hq03, -, -⟩ := H3.out.row (j := 0) (by omega) (by show M.ps.length = 1; rw [H3.out.gr.rl, H3.out.rs]; rfl) rfl
  obtain ⟨q3, hq31, hq32, hq33, -, -⟩ := H3.out.row (j := 3) (by omega) (by show G.ats.length = 1; rw [hat]; rfl) rfl
  have hqb : q0 = b0 := by
    rw [hq02] at c0; injection c0 with c0; injection c0 with c0; injection c0 with c0; injection c0
  subst hqb
  have HS3 := Lib.hid (show CzS g q0 (M.rc 0) p q3 (M.rc 3) a W3 from ⟨hg3, hq02, cp, hq32, by rw [hq33]; show (G.ats.map iz)[0]? = _; rw [hat]; rfl⟩)
  have HFAR := Lib.hid (show ¬ N.own p g ∧ ¬ N.own p q0 ∧ ¬ N.own p q3 from ⟨H3.out.far.1, H3.out.far.2 0 q0 (by omega) (by rw [hq01]; rfl), H3.out.far.2 3 q3 (by omega) (by rw [hq31]; rfl)⟩)
  have HMH := Lib.hid hmh
  have HMT := Lib.hid hmt
  have HCY := Lib.hid hcy
  clear hq01 hq02 hq03 hq31 hq32 hq33 c0 cp d3 hg3 hrow3 hmb hmn hmh hmt hhd hnt hcy
  go_wp2_with fail
  clear d0
  obtain ⟨X, hX⟩ : ∃ X : Nat, X = a / 256 := ⟨_, rfl⟩
  obtain ⟨Y, hY⟩ : ∃ Y : Nat, Y = a % 256 := ⟨_, rfl⟩
  have tq : ((a : Int)).tdiv 256 = (X : Int) := by rw [hX]; rfl
  have w1 : IntKind.i64.wrap (X : Int) = (X : Int) := IntWalk.i64_in _ (by omega)
  have u1 : IntKind.u8.wrap (X : Int) = (X : Int) := IntWalk.u8_in _ (by omega)
  have u2 : IntKind.u8.wrap (a : Int) = (Y : Int) := by rw [IntKind.wrap_u8]; omega
  have tq2 : (a : Int) / 256 = (X : Int) := by rw [hX]; rfl
  have tq3 : (a : Int) % 256 = (Y : Int) := by rw [hY]; rfl
  have HX := Lib.hid hX
  have HY := Lib.hid hY
  clear hX hY
  refine wp_region_any (by kernel_rfl) ?_
  refine wpAny_of_held (S := CzS g q0 (M.rc 0) p q3 (M.rc 3) a) _ _ _ _ ?_
  obtain ⟨W4, hW4⟩ : ∃ W4, W4 = W3.drew := ⟨_, rfl⟩
  have hdr : Below W3.heap.size W3 W4 := by rw [hW4]; exact (Below.refl _ _).drew
  (refine (show wpAnyH _ _ _ _ _ _ _ _ W3.drew from ?_))
  rw [← hW4]
  clear hW4
  have H4 := Lib.hid (H3.out.below hdr)
  have hS : CzS g q0 (M.rc 0) p q3 (M.rc 3) a W4 := HS3.out.below hdr
  refine heldTake 0 186 rfl rfl (by kernel_rfl) (by kernel_rfl) (by kernel_rfl) (fun _ _ _ h => h) hS (.inl ⟨by rfl, by intro w' hS; obtain ⟨s1, s2, s3, s4, s5⟩ := hS; go_simp; (try rfl)⟩) ?_
  simp only [List.set_cons_zero, List.set_cons_succ]
  refine heldTake 4 190 rfl rfl (by kernel_rfl) (by kernel_rfl) (by kernel_rfl) (fun _ _ _ h => h) hS (.inl ⟨by rfl, by intro w' hS; obtain ⟨s1, s2, s3, s4, s5⟩ := hS; go_simp; (try rfl)⟩) ?_
  simp only [List.set_cons_zero, List.set_cons_succ]
  refine heldTake 7 193 rfl rfl (by kernel_rfl) (by kernel_rfl) (by kernel_rfl) (fun _ _ _ h => h) hS (.inl ⟨by rfl, by intro w' hS; obtain ⟨s1, s2, s3, s4, s5⟩ := hS; go_simp; (try rfl)⟩) ?_
  simp only [List.set_cons_zero, List.set_cons_succ]
  refine heldTake 11 197 rfl rfl (by kernel_rfl) (by kernel_rfl) (by kernel_rfl) (fun _ _ _ h => h) hS (.inl ⟨by rfl, by intro w' hS; obtain ⟨s1, s2, s3, s4, s5⟩ := hS; go_simp; (try rfl)⟩) ?_
  simp only [List.set_cons_zero, List.set_cons_succ]
  refine heldTake 16 202 rfl rfl (by kernel_rfl) (by kernel_rfl) (by kernel_rfl) (fun _ _ _ h => h) hS (.inl ⟨by rfl, by intro w' hS; obtain ⟨s1, s2, s3, s4, s5⟩ := hS; go_simp; (try rfl)⟩) ?_
  simp only [List.set_cons_zero, List.set_cons_succ]
  refine heldTake 20 206 rfl rfl (by kernel_rfl) (by kernel_rfl) (by kernel_rfl) (fun _ _ _ h => h) hS (.inl ⟨by rfl, by intro w' hS; obtain ⟨s1, s2, s3, s4, s5⟩ := hS; go_simp; (try rfl)⟩) ?_
  simp only [List.set_cons_zero, List.set_cons_succ]
  refine heldTake 1 187 rfl rfl (by kernel_rfl) (by kernel_rfl) (by kernel_rfl) (fun _ _ _ h => h) hS (.inl ⟨by rfl, by intro w' hS; obtain ⟨s1, s2, s3, s4, s5⟩ := hS; go_simp; (try rfl)⟩) ?_
  simp only [List.set_cons_zero, List.set_cons_succ]
  refine heldTake 8 194 rfl rfl (by kernel_rfl) (by kernel_rfl) (by kernel_rfl) (fun _ _ _ h => h) hS (.inl ⟨by rfl, by intro w' hS; obtain ⟨s1, s2, s3, s4, s5⟩ := hS; go_simp; (try rfl)⟩) ?_
  simp only [List.set_cons_zero, List.set_cons_succ]
  refine heldTake 17 203 rfl rfl (by kernel_rfl) (by kernel_rfl) (by kernel_rfl) (fun _ _ _ h => h) hS (.inl ⟨by rfl, by intro w' hS; obtain ⟨s1, s2, s3, s4, s5⟩ := hS; go_simp; (try rfl)⟩) ?_
  simp only [List.set_cons_zero, List.set_cons_succ]
  refine heldTake 2 188 rfl rfl (by kernel_rfl) (by kernel_rfl) (by kernel_rfl) (fun _ _ _ h => h) hS (.inl ⟨by rfl, by intro w' hS; obtain ⟨s1, s2, s3, s4, s5⟩ := hS; go_simp; (try rfl)⟩) ?_
  simp only [List.set_cons_zero, List.set_cons_succ]
  refine heldTake 9 195 rfl rfl (by kernel_rfl) (by kernel_rfl) (by kernel_rfl) (fun _ _ _ h => h) hS (.inl ⟨by rfl, by intro w' hS; obtain ⟨s1, s2, s3, s4, s5⟩ := hS; go_simp; (try rfl)⟩) ?_
  simp only [List.set_cons_zero, List.set_cons_succ]
  refine heldTake 18 204 rfl rfl (by kernel_rfl) (by kernel_rfl) (by kernel_rfl) (fun _ _ _ h => h) hS (.inl ⟨by rfl, by intro w' hS; obtain ⟨s1, s2, s3, s4, s5⟩ := hS; go_simp; (try rfl)⟩) ?_
  simp only [List.set_cons_zero, List.set_cons_succ]
  refine heldTake 3 189 rfl rfl (by kernel_rfl) (by kernel_rfl) (by kernel_rfl) (fun _ _ _ h => h) hS (.inl ⟨by rfl, by intro w' hS; obtain ⟨s1, s2, s3, s4, s5⟩ := hS; go_simp; (try rfl)⟩) ?_
  simp only [List.set_cons_zero, List.set_cons_succ]
  refine heldTake 10 196 rfl rfl (by kernel_rfl) (by kernel_rfl) (by kernel_rfl) (fun _ _ _ h => h) hS (.inl ⟨by rfl, by intro w' hS; obtain ⟨s1, s2, s3, s4, s5⟩ := hS; go_simp; (try rfl)⟩) ?_
  simp only [List.set_cons_zero, List.set_cons_succ]
  refine heldTake 19 205 rfl rfl (by kernel_rfl) (by kernel_rfl) (by kernel_rfl) (fun _ _ _ h => h) hS (.inl ⟨by rfl, by intro w' hS; obtain ⟨s1, s2, s3, s4, s5⟩ := hS; go_simp; (try rfl)⟩) ?_
  simp only [List.set_cons_zero, List.set_cons_succ]
  refine heldTake 5 191 rfl rfl (by kernel_rfl) (by kernel_rfl) (by kernel_rfl) (fun _ _ _ h => h) hS (.inl ⟨by rfl, by intro w' hS; obtain ⟨s1, s2, s3, s4, s5⟩ := hS; go_simp; (try rfl)⟩) ?_
  simp only [List.set_cons_zero, List.set_cons_succ]
  refine heldTake 12 198 rfl rfl (by kernel_rfl) (by kernel_rfl) (by kernel_rfl) (fun _ _ _ h => h) hS (.inl ⟨by rfl, by intro w' hS; obtain ⟨s1, s2, s3, s4, s5⟩ := hS; go_simp; (try rfl)⟩) ?_
  simp only [List.set_cons_zero, List.set_cons_succ]
  refine heldTake 21 207 rfl rfl (by kernel_rfl) (by kernel_rfl) (by kernel_rfl) (fun _ _ _ h => h) hS (.inl ⟨by rfl, by intro w' hS; obtain ⟨s1, s2, s3, s4, s5⟩ := hS; go_simp; (try rfl)⟩) ?_
  simp only [List.set_cons_zero, List.set_cons_succ]
  refine heldTake 6 192 rfl rfl (by kernel_rfl) (by kernel_rfl) (by kernel_rfl) (fun _ _ _ h => h) hS (.inl ⟨by rfl, by intro w' hS; obtain ⟨s1, s2, s3, s4, s5⟩ := hS; go_simp; (try rfl)⟩) ?_
  simp only [List.set_cons_zero, List.set_cons_succ]
  refine heldTake 13 199 rfl rfl (by kernel_rfl) (by kernel_rfl) (by kernel_rfl) (fun _ _ _ h => h) hS (.inl ⟨by rfl, by intro w' hS; obtain ⟨s1, s2, s3, s4, s5⟩ := hS; go_simp; (try rfl)⟩) ?_
  simp only [List.set_cons_zero, List.set_cons_succ]
  refine heldTake 22 208 rfl rfl (by kernel_rfl) (by kernel_rfl) (by kernel_rfl) (fun _ _ _ h => h) hS (.inl ⟨by rfl, by intro w' hS; obtain ⟨s1, s2, s3, s4, s5⟩ := hS; go_simp; (try rfl)⟩) ?_
  simp only [List.set_cons_zero, List.set_cons_succ]
  refine heldTake 14 200 (v := .int .i64 X) rfl rfl (by kernel_rfl) (by kernel_rfl) (by kernel_rfl) (fun _ _ _ h => h) hS (.inl ⟨by rfl, by intro w' hS; clear hS; go_simp; (try (all_goals rfl))⟩) ?_
  simp only [List.set_cons_zero, List.set_cons_succ]
  refine heldTake 23 209 (v := .int .u8 Y) rfl rfl (by kernel_rfl) (by kernel_rfl) (by kernel_rfl) (fun _ _ _ h => h) hS (.inl ⟨by rfl, by intro w' hS; clear hS; go_simp; (try (all_goals rfl))⟩) ?_
  simp only [List.set_cons_zero, List.set_cons_succ]
  refine heldTake 15 201 (v := .int .u8 X) rfl rfl (by kernel_rfl) (by kernel_rfl) (by kernel_rfl) (fun _ _ _ h => h) hS (.inl ⟨by rfl, by intro w' hS; clear hS; go_simp; (try (all_goals rfl))⟩) ?_
  simp only [List.set_cons_zero, List.set_cons_succ]
  have HSX := Lib.hid hS
  clear hS
  obtain ⟨U, hU⟩ : ∃ U, U = W4.alloc (.cells #[.int .u8 X, .int .u8 Y] 5) := ⟨_, rfl⟩
  have hbU : Below W4.heap.size W4 U := by rw [hU]; exact (Below.refl _ _).alloc (Nat.le_refl _) _
  have hbs : BsAt U U.heap.size (some ⟨W4.heap.size, 0, none⟩) 2 2 (atBytes a) := by
    have e : (atBytes a).map bv = [.int .u8 X, .int .u8 Y] := by
      have hX := HX.out
      have hY := HY.out
      unfold atBytes
      simp only [List.map_cons, List.map_nil, bv, UInt8.toNat_ofNat']
      congr 2
      · omega
      · congr 2; omega
    have h9 := slAt_new W4 [.int .u8 X, .int .u8 Y] 5 (by unfold maxLen; simp)
    have hs : U.heap.size = W4.heap.size + 1 := by rw [hU]; simp
    refine BsAt.ofSl ?_ (by omega)
    rw [e, hs, hU]
    exact h9
  have HBSU := Lib.hid hbs
  have HUO := Lib.hid (H4.out.below hbU)
  have HSU := Lib.hid (HSX.out.below hbU)
  have HBU := Lib.hid (hdr.trans (hbU.mono hdr.size))
  have HW4 := Lib.hid (show ¬ N.own p W4.heap.size from fun hk => by
    have h9 := H4.out.gr.lt (x := .raft 0) (k := W4.heap.size) ⟨_, H4.out.q, hk⟩
    omega)
  have HU := Lib.hid hU
  clear hbU hbs hU
  refine heldOne 24 (by kernel_rfl) rfl (by rfl) ?_
  go_simp
  rw [← HU.out]
  refine ⟨HSU.out, ?_⟩
  refine heldOne 25 (by kernel_rfl) rfl (by rfl) ?_
  go_simp
  refine (raftCompact p R N (atBytes a) (some ⟨W4.heap.size, 0, none⟩) 2 HUO.out.ok _ HBSU.out (fun _ ad had hk => by injection had with had; subst had; exact HW4.out hk) HUO.out.rf).mono ?_
  rintro e w5 ⟨rfl, N1, hr5, ht5⟩
  obtain ⟨hg5, hb5⟩ := HUO.out.put hr5 ht5
  have hS5 := HSU.out.touch ht5 HFAR.out.1 HFAR.out.2.1 HFAR.out.2.2
  have hq5 : ({ M with ps := M.ps.set 0 (p, N1) } : GMem).ps[0]? = some (p, N1) := by
    show (M.ps.set 0 _)[0]? = _
    rw [set_get (List.getElem?_eq_some_iff.1 H3.out.q).1, if_pos rfl]
  obtain ⟨R', hR'⟩ : ∃ R', R' = (R.compact (atBytes a)).1 := ⟨_, rfl⟩
  have hok5 := HC.out.ok
  have hout5 := HC.out.out
  have HRQ := Lib.hid hR'
  rw [← hR'] at hg5 hput hsl hnw hok5 hout5 HC ⊢
  obtain ⟨M5, hM5⟩ : ∃ M5 : GMem, M5 = { M with ps := M.ps.set 0 (p, N1) } := ⟨_, rfl⟩
  rw [← hM5] at hg5 hq5
  have H5 := Lib.hid (show One w5 B g { G with rs := [R'] } M5 p N1 R' from ⟨hg5, rfl, H3.out.bag, hq5, hok5, hnw, hout5⟩)
  have HB5 := Lib.hid (HB3.out.trans ((HBU.out.mono H3.out.gr.bs).trans hb5))
  have HM5 := Lib.hid (show M5.hs = [mh] ∧ M5.ts = [mt] by rw [hM5]; exact ⟨HMH.out, HMT.out⟩)
  rw [HCY.out]
  refine ⟨hS5, wpAnyH_done (by kernel_rfl) ?_ _⟩
  clear hg5 hb5 hr5 ht5 hS5 hdr hM5 hR' tq tq2 tq3 w1 u1 u2
  obtain ⟨r0, hr01, c0, -, -, -⟩ := H5.out.row (j := 0) (by omega) (by show M5.ps.length = 1; rw [H5.out.gr.rl]; rfl) rfl
  obtain ⟨b0, c0', cp, -⟩ := H5.out.cells
  have hrb : r0 = b0 := by
    rw [c0] at c0'; injection c0' with c0'; injection c0' with c0'; injection c0' with c0'; injection c0'
  subst hrb
  obtain ⟨r1, hr11, c1, -, -, -⟩ := H5.out.row (j := 1) (by omega) (by show M5.hs.length = 1; rw [HM5.out.1]; rfl) rfl
  have HS5 := Lib.hid (show HzS g r0 (M5.rc 0) p r1 (M5.rc 1) w5 from ⟨H5.out.gr.lt (x := .g) rfl, c0, cp, c1⟩)
  have HR11 := Lib.hid hr11
  have HNE := Lib.hid (show r1 ≠ g ∧ r1 ≠ r0 from ⟨fun e => (by
    have h9 := H5.out.gr.dis .g (.row 1) r1 e ⟨by omega, by rw [hr11]; rfl⟩
    cases h9), fun e => (by
    have h9 := H5.out.gr.dis (.row 0) (.row 1) r1 ⟨by omega, by rw [hr01, e]; rfl⟩ ⟨by omega, by rw [hr11]; rfl⟩
    cases h9)⟩)
  clear c0 c0' cp c1 hr01 hr11
  go_wp2_with fail
  refine wp_region_any (by kernel_rfl) ?_
  refine wpAny_of_held (S := HzS g r0 (M5.rc 0) p r1 (M5.rc 1)) _ _ _ _ ?_
  obtain ⟨w6, hw6⟩ : ∃ w6, w6 = w5.drew := ⟨_, rfl⟩
  have hdr : Below w5.heap.size w5 w6 := by rw [hw6]; exact (Below.refl _ _).drew
  (refine (show wpAnyH _ _ _ _ _ _ _ _ w5.drew from ?_))
  rw [← hw6]
  clear hw6
  have H6 := Lib.hid (H5.out.below hdr)
  have hS : HzS g r0 (M5.rc 0) p r1 (M5.rc 1) w6 := HS5.out.below hdr
  refine heldTake 0 212 rfl rfl (by kernel_rfl) (by kernel_rfl) (by kernel_rfl) (fun _ _ _ h => h) hS (.inl ⟨by rfl, by intro w' hS; obtain ⟨s1, s2, s3, s4⟩ := hS; go_simp; (try rfl)⟩) ?_
  simp only [List.set_cons_zero, List.set_cons_succ]
  refine heldTake 4 216 rfl rfl (by kernel_rfl) (by kernel_rfl) (by kernel_rfl) (fun _ _ _ h => h) hS (.inl ⟨by rfl, by intro w' hS; obtain ⟨s1, s2, s3, s4⟩ := hS; go_simp; (try rfl)⟩) ?_
  simp only [List.set_cons_zero, List.set_cons_succ]
  refine heldTake 5 217 rfl rfl (by kernel_rfl) (by kernel_rfl) (by kernel_rfl) (fun _ _ _ h => h) hS (.inl ⟨by rfl, by intro w' hS; obtain ⟨s1, s2, s3, s4⟩ := hS; go_simp; (try rfl)⟩) ?_
  simp only [List.set_cons_zero, List.set_cons_succ]
  refine heldTake 9 221 rfl rfl (by kernel_rfl) (by kernel_rfl) (by kernel_rfl) (fun _ _ _ h => h) hS (.inl ⟨by rfl, by intro w' hS; obtain ⟨s1, s2, s3, s4⟩ := hS; go_simp; (try rfl)⟩) ?_
  simp only [List.set_cons_zero, List.set_cons_succ]
  refine heldTake 1 213 rfl rfl (by kernel_rfl) (by kernel_rfl) (by kernel_rfl) (fun _ _ _ h => h) hS (.inl ⟨by rfl, by intro w' hS; obtain ⟨s1, s2, s3, s4⟩ := hS; go_simp; (try rfl)⟩) ?_
  simp only [List.set_cons_zero, List.set_cons_succ]
  refine heldTake 6 218 rfl rfl (by kernel_rfl) (by kernel_rfl) (by kernel_rfl) (fun _ _ _ h => h) hS (.inl ⟨by rfl, by intro w' hS; obtain ⟨s1, s2, s3, s4⟩ := hS; go_simp; (try rfl)⟩) ?_
  simp only [List.set_cons_zero, List.set_cons_succ]
  refine heldTake 2 214 rfl rfl (by kernel_rfl) (by kernel_rfl) (by kernel_rfl) (fun _ _ _ h => h) hS (.inl ⟨by rfl, by intro w' hS; obtain ⟨s1, s2, s3, s4⟩ := hS; go_simp; (try rfl)⟩) ?_
  simp only [List.set_cons_zero, List.set_cons_succ]
  refine heldTake 7 219 rfl rfl (by kernel_rfl) (by kernel_rfl) (by kernel_rfl) (fun _ _ _ h => h) hS (.inl ⟨by rfl, by intro w' hS; obtain ⟨s1, s2, s3, s4⟩ := hS; go_simp; (try rfl)⟩) ?_
  simp only [List.set_cons_zero, List.set_cons_succ]
  refine heldTake 3 215 rfl rfl (by kernel_rfl) (by kernel_rfl) (by kernel_rfl) (fun _ _ _ h => h) hS (.inl ⟨by rfl, by intro w' hS; obtain ⟨s1, s2, s3, s4⟩ := hS; go_simp; (try rfl)⟩) ?_
  simp only [List.set_cons_zero, List.set_cons_succ]
  refine heldTake 8 220 rfl rfl (by kernel_rfl) (by kernel_rfl) (by kernel_rfl) (fun _ _ _ h => h) hS (.inl ⟨by rfl, by intro w' hS; obtain ⟨s1, s2, s3, s4⟩ := hS; go_simp; (try rfl)⟩) ?_
  simp only [List.set_cons_zero, List.set_cons_succ]
  refine heldTake 10 222 rfl rfl (by kernel_rfl) (by kernel_rfl) (by kernel_rfl) (fun _ _ _ h => h) hS (.inl ⟨by rfl, by intro w' hS; obtain ⟨s1, s2, s3, s4⟩ := hS; go_simp; (try rfl)⟩) ?_
  simp only [List.set_cons_zero, List.set_cons_succ]
  refine heldTake 11 223 rfl rfl (by kernel_rfl) (by kernel_rfl) (by kernel_rfl) (fun _ _ _ h => h) hS (.inl ⟨by rfl, by intro w' hS; obtain ⟨s1, s2, s3, s4⟩ := hS; go_simp; (try rfl)⟩) ?_
  simp only [List.set_cons_zero, List.set_cons_succ]
  have HSX6 := Lib.hid hS
  clear hS
  refine heldOne 12 (by kernel_rfl) rfl (by rfl) ?_
  go_simp
  refine (raftHead p R' N1 hok5.bt0 hok5.bt1 hok5.bf0 hok5.bf1 hok5.line hput hsl _ H6.out.rf).mono ?_
  rintro e w7 ⟨ha7, hc7, rfl, hby7, hb7, -⟩
  have hS7 := HSX6.out.below hb7
  have H7 := Lib.hid (H6.out.below hb7)
  have HB7 := Lib.hid (HB5.out.trans ((hdr.trans (hb7.mono hdr.size)).mono H5.out.gr.bs))
  obtain ⟨s1, hs11, -, k1, f1, -⟩ := H7.out.row (j := 1) (by omega) (by show M5.hs.length = 1; rw [HM5.out.1]; rfl) rfl
  have hse : s1 = r1 := by
    rw [HR11.out] at hs11; injection hs11 with e; injection e with e; exact e.symm
  subst hse
  replace k1 : w7.cell? ⟨s1, 0, none⟩ = some mh.cell := by rw [k1]; show (M5.hs.map MNote.cell)[0]? = _; rw [HM5.out.1]; rfl
  refine ⟨hS7, ?_⟩
  refine heldTake 13 225 rfl rfl (by kernel_rfl) (by kernel_rfl) (by kernel_rfl) (fun _ _ _ h => h) hS7 (.inl ⟨by rfl, by intro w' hS; obtain ⟨s1, s2, s3, s4⟩ := hS; go_simp; (try rfl)⟩) ?_
  simp only [List.set_cons_zero, List.set_cons_succ]
  refine heldOne 14 (by kernel_rfl) rfl (by rfl) ?_
  refine wp_store_cell 27 (.tmp 225) (.tmp 224) rfl s1 0 (.slice ha7 R'.head.length hc7) _ rfl rfl rfl infoBytes1 k1 f1 ?_
  have hg8 := H7.out.gr.setHead (i := 0) (b := s1) (cap := M5.rc 1) (by rw [HM5.out.1]; simp) (by show Value.slice (M5.ra 1) M5.hs.length (M5.rc 1) = _; rw [hs11]) ⟨ha7, hc7, R'.head⟩ hby7
  have hcl8 : MNote.cell ⟨ha7, hc7, R'.head⟩ = .slice ha7 R'.head.length hc7 := rfl
  rw [hcl8] at hg8
  have hS8 := hS7.set (j := 0) (v := .slice ha7 R'.head.length hc7) HNE.out.1 HNE.out.2
  obtain ⟨V8, hV8⟩ : ∃ V8, V8 = w7.setCell ⟨s1, 0, none⟩ (.slice ha7 R'.head.length hc7) := ⟨_, rfl⟩
  rw [← hV8] at hg8 hS8 ⊢
  obtain ⟨M8, hM8⟩ : ∃ M8 : GMem, M8 = { M5 with hs := M5.hs.set 0 ⟨ha7, hc7, R'.head⟩ } := ⟨_, rfl⟩
  rw [← hM8] at hg8
  have hq8 : M8.ps[0]? = some (p, N1) := by rw [hM8]; exact hq5
  have H8 := Lib.hid (show One V8 B g { G with rs := [R'], hd := [R'.head] } M8 p N1 R' from ⟨by
    have e : ({ G with rs := [R'], hd := G.hd.set 0 R'.head } : PGroup) = { G with rs := [R'], hd := [R'.head] } := by
      have h9 := H3.out.gr.ct.hq
      rw [HMH.out] at h9
      rw [← h9]; rfl
    rw [← e]; exact hg8, rfl, H3.out.bag, hq8, hok5, hnw, hout5⟩)
  have HB8 := Lib.hid (show Below B w V8 from HB7.out.trans (by rw [hV8]; exact below_set (H7.out.gr.inn (.row 1) s1 ⟨by omega, by rw [hs11]; rfl⟩) _))
  have HM8 := Lib.hid (show M8.ts = [mt] by rw [hM8]; exact HM5.out.2)
  refine ⟨hS8, wpAnyH_done (by kernel_rfl) ?_ _⟩
  clear hg8 hS7 hS8 hV8 hM8 hb7 hdr hby7 hs11 k1 f1
  obtain ⟨s2, hs21, c2, k2, f2, -⟩ := H8.out.row (j := 2) (by omega) (by show M8.ts.length = 1; rw [HM8.out]; rfl) rfl
  replace k2 : V8.cell? ⟨s2, 0, none⟩ = some mt.cell := by rw [k2]; show (M8.ts.map MNts.cell)[0]? = _; rw [HM8.out]; rfl
  obtain ⟨V9, hV9⟩ : ∃ V9, V9 = V8.setCell ⟨s2, 0, none⟩ (.slice none 0 0) := ⟨_, rfl⟩
  have hg9 := H8.out.gr.setNotes (i := 0) (b := s2) (cap := M8.rc 2) (by rw [HM8.out]; simp) (by show Value.slice (M8.ra 2) M8.ts.length (M8.rc 2) = _; rw [hs21]) ⟨none, 0, []⟩ ⟨rfl, .inl ⟨rfl, rfl⟩⟩ (fun m hm => by cases hm) (fun k hk => by cases hk)
  have hcl9 : MNts.cell ⟨none, 0, []⟩ = .slice none 0 0 := rfl
  rw [hcl9, ← hV9] at hg9
  have HG9 := Lib.hid (show GrAt V9 B g 0 { G with rs := [R'], hd := [R'.head], nt := [[]] } { M8 with ts := M8.ts.set 0 ⟨none, 0, []⟩ } by
    have e : ({ G with rs := [R'], hd := [R'.head], nt := G.nt.set 0 [] } : PGroup) = { G with rs := [R'], hd := [R'.head], nt := [[]] } := by
      have h9 := H3.out.gr.ct.tq
      rw [HMT.out] at h9
      rw [← h9]; rfl
    rw [← e]; exact hg9)
  have HB9 := Lib.hid (show Below B w V9 from HB8.out.trans (by rw [hV9]; exact below_set (H8.out.gr.inn (.row 2) s2 ⟨by omega, by rw [hs21]; rfl⟩) _))
  have HV9 := Lib.hid hV9
  clear hg9 hV9 hs21
  go_wp2_with fail
  rw [← HV9.out]
  refine (l18collect1 HG9.out hq8 HC.out).mono ?_
  rintro e w10 ⟨rfl, M6, N6, hg10, hp10, hn10, hb10⟩
  have HF := Lib.hid hg10
  have HFB := Lib.hid (HB9.out.trans hb10)
  clear hg10 hb10
  go_wp2_with fail
  go_end0
  exact ⟨rfl, M6, N6, by rw [← HRQ.out]; exact HF.out, hp10, hn10, HFB.out⟩
end
end Go.Proofs.YtogcnfhmcpkdcaaGreat

namespace Go.Proofs.YtogcnfhmcpkdcaaGreat
open Go.RowKit
set_option linter.unusedVariables false
set_option linter.unusedSimpArgs false

section
variable {w w' w1 : World} {B g c m : Nat} {G : PGroup} {M : GMem} {T : Int}
theorem Al.one {N : RMem} {p : Nat} {R : PRaft} (h : GrAt w B g 0 G M) (hq : M.ps[0]? = some (p, N)) (ha : Al G R m c) : One w B g G M p N R := ⟨h, ha.rs, ha.bag, hq, ha.ok, ha.nw, ha.out⟩
/-- behind so many ticks: it waits, or it leads -/
def Ph (T : Int) (t : Nat) (G : PGroup) (R : PRaft) (m c : Nat) : Prop := (t < 20 ∧ Fl T t G R m (c + t)) ∨ (t = 20 ∧ Ld (T + 1) G R (m + 1) (c + 20))
theorem Ph.step {R : PRaft} {t : Nat} (h : Ph T t G R m c) (ht : t < 20) (hc : c ≤ 900) (hT : T ≤ 1000) : Al G R m (c + t) ∧ Col { G with rs := [R.tick] } 0 R.tick ∧ Ph T (t + 1) (({ G with rs := [R.tick] } : PGroup).collected 0 R.tick) { R.tick with news := [], applied := R.tick.commit } m c := by
  rcases h with ⟨-, h⟩ | ⟨h, -⟩
  · refine ⟨h.al, ?_⟩
    by_cases h9 : t + 1 < 20
    · obtain ⟨h1, h2⟩ := h.next (by omega) (by omega)
      exact ⟨h1, .inl ⟨h9, h2⟩⟩
    · have h8 : t = 19 := by omega
      subst h8
      obtain ⟨h1, h2⟩ := h.leads (by omega) (by omega)
      exact ⟨h1, .inr ⟨rfl, h2⟩⟩
  · omega
theorem Ph.bag {R : PRaft} {t : Nat} (h : Ph T t G R m c) : G.bag = [] := by
  rcases h with ⟨-, h⟩ | ⟨-, h⟩
  · exact h.al.bag
  · exact h.al.bag

set_option maxRecDepth 100000 in
set_option maxHeartbeats 2000000 in
theorem l18fair20 {N : RMem} {p : Nat} {R : PRaft} (h : GrAt w B g 0 G M) (hq : M.ps[0]? = some (p, N)) (hf : Fl T 0 G R m c) (hc : c ≤ 900) (hT : T ≤ 1000) :
    Calls Tryz.prog 25 #[.pointer (some ⟨g, 0, none⟩), .int .i64 20] w fun e w' => e = .returned (.tuple #[]) ∧ ∃ G' R' M' N', GrAt w' B g 0 G' M' ∧ M'.ps[0]? = some (p, N') ∧ Ld (T + 1) G' R' (m + 1) (c + 20) ∧ Below B w w' := by
  have H := Lib.hid h
  have HF := Lib.hid hf
  have HQ := Lib.hid hq
  have HB0 := Lib.hid (show Below B w w from (Below.refl _ _).mono h.bs)
  clear h hf hq
  go_enter Tryz.func25, Tryz.ntmps25
  go_wp2_with fail
  obtain ⟨wo, hwo⟩ : ∃ wo : World, wo = w := ⟨_, rfl⟩
  have HWO := Lib.hid hwo
  clear hwo
  go_loopw [4] (fun tv wr => ∃ (t : Nat) (G' : PGroup) (R' : PRaft) (M' : GMem) (N' : RMem), tv = .int .i64 t ∧ t ≤ 20 ∧ GrAt wr B g 0 G' M' ∧ M'.ps[0]? = some (p, N') ∧ Below B wo wr ∧ Ph T t G' R' m c) (fun tv _ => 20 - (intOf tv).toNat)
  case atStart => exact ⟨0, G, R, M, N, rfl, by omega, H.out, HQ.out, by rw [HWO.out]; exact HB0.out, .inl ⟨by omega, HF.out⟩⟩
  case round =>
    obtain ⟨t, G', R', M', N', rfl, ht, hg, hq', hb, hph⟩ := hrel
    by_cases ht2 : t < 20
    · have t1 : decide ((t : Int) < 20) = true := decide_eq_true (by omega)
      have t1n : decide (t < 20) = true := decide_eq_true ht2
      obtain ⟨hal, hcol, hnx⟩ := hph.step ht2 hc hT
      have HONE := Lib.hid (Al.one hg hq' hal)
      have HCOL := Lib.hid hcol
      have HNX := Lib.hid hnx
      have HBX := Lib.hid hb
      clear hg hq' hal hcol hnx hph hb
      go_wp2_with fail
      refine (l18step0 HONE.out HCOL.out).mono ?_
      rintro e w2 ⟨rfl, M2, N2, hg2, hq2, hn2, hb2⟩
      have hml : M2.ms.length = 0 := by have h9 := congrArg List.length hg2.ct.bq; rw [HNX.out.bag] at h9; simpa using h9
      have c4 : w2.cell? ⟨g, 4, none⟩ = some (.slice (M2.ra 4) 0 (M2.rc 4)) := by rw [← hml]; exact hg2.cl (i := 4) (by omega)
      have HG2 := Lib.hid hg2
      have HB2 := Lib.hid (HBX.out.trans hb2)
      clear hg2 hb2
      go_wp2_with fail
      go_loopw [5] (fun kv wx => kv = .int .i64 0 ∧ wx = w2) (fun _ _ => 0)
      case atStart => exact ⟨rfl, rfl⟩
      case round =>
        obtain ⟨rfl, rfl⟩ := hrel
        go_wp2_with fail
        go_roundw
        case rel => exact ⟨t + 1, _, _, M2, N2, by go_num, by omega, HG2.out, hq2, HB2.out, HNX.out⟩
        case measure => simp [intOf]; omega
    · have t1 : decide ((t : Int) < 20) = false := decide_eq_false (by omega)
      have t1n : decide (t < 20) = false := decide_eq_false ht2
      have HG := Lib.hid hg
      have HBX := Lib.hid hb
      have HLD := Lib.hid (show Ld (T + 1) G' R' (m + 1) (c + 20) by
        rcases hph with ⟨h9, -⟩ | ⟨-, h9⟩
        · omega
        · exact h9)
      clear hg hb hph
      go_wp2_with fail
      go_end0
      exact ⟨rfl, G', R', M', N', HG.out, hq', HLD.out, by rw [← HWO.out]; exact HBX.out⟩
end
end Go.Proofs.YtogcnfhmcpkdcaaGreat

namespace Go.Proofs.YtogcnfhmcpkdcaaGreat
open Go.RowKit
set_option linter.unusedVariables false
set_option linter.unusedSimpArgs false

/-- what the drawn region reads that looks at what was handed out -/
structure AlS (g b3 cap3 b5 cap5 i1 i2 lb lo : Nat) (v5 vl : Value) (W : World) : Prop where
  s : g < W.heap.size
  c3 : W.cell? ⟨g, 3, none⟩ = some (.slice (some ⟨b3, 0, none⟩) 1 cap3)
  k3 : W.cell? ⟨b3, 0, none⟩ = some (.int .i64 i2)
  c5 : W.cell? ⟨g, 5, none⟩ = some (.slice (some ⟨b5, 0, none⟩) i2 cap5)
  k5 : W.cell? ⟨b5, i1 * 2 + 1, none⟩ = some v5
  kl : W.cell? ⟨lb, lo, none⟩ = some vl
section
variable {w w' w1 : World} {B g c m : Nat} {G : PGroup} {M : GMem} {T : Int}
theorem AlS.below {b3 cap3 b5 cap5 i1 i2 lb lo : Nat} {v5 vl : Value} (h : AlS g b3 cap3 b5 cap5 i1 i2 lb lo v5 vl w) (hb : Below w.heap.size w w') : AlS g b3 cap3 b5 cap5 i1 i2 lb lo v5 vl w' :=
  ⟨Nat.lt_of_lt_of_le h.s hb.size, (hb.cell (p := ⟨g, 3, none⟩) h.s).trans h.c3, (hb.cell (p := ⟨b3, 0, none⟩) (cell_lt9 h.k3)).trans h.k3, (hb.cell (p := ⟨g, 5, none⟩) h.s).trans h.c5, (hb.cell (p := ⟨b5, i1 * 2 + 1, none⟩) (cell_lt9 h.k5)).trans h.k5, (hb.cell (p := ⟨lb, lo, none⟩) (cell_lt9 h.kl)).trans h.kl⟩
/-- the row of what was handed out, at one place -/
theorem seenRow (h : GrAt w B g c G M) {k : Nat} {x : PItem} (hx : G.seen[k]? = some x) : ∃ (b : Nat) (ms : MItem), w.cell? ⟨g, 5, none⟩ = some (.slice (some ⟨b, 0, none⟩) G.seen.length (M.rc 5)) ∧ w.cell? ⟨b, k * 2 + 1, none⟩ = some (.slice ms.a ms.n ms.c) ∧ ms.it = x ∧ OwnBs 5 w ms := by
  have hss : M.ss.length = G.seen.length := by rw [← h.ct.sq]; simp
  have hk := (List.getElem?_eq_some_iff.1 hx).1
  obtain ⟨ms, hms⟩ : ∃ ms, M.ss[k]? = some ms := ⟨_, List.getElem?_eq_getElem (by omega)⟩
  have hmx : ms.it = x := by
    have h8 : (M.ss.map MItem.it)[k]? = some x := by rw [h.ct.sq]; exact hx
    rw [List.getElem?_map, hms] at h8
    injection h8
  obtain ⟨q, h1, h2, _, h4⟩ := h.at_ (i := 5) (by omega) (j := k * 2 + 1) (by show k * 2 + 1 < M.ss.length * 2; omega)
  refine ⟨q, ms, ?_, h2.trans (cellsM_at _ _ _ hms).2, hmx, h.ct.sb ms (List.mem_of_getElem? hms)⟩
  have h9 := h.cl (i := 5) (by omega)
  rw [h9, ← h1, ← hss]; rfl
end

set_option maxRecDepth 100000 in
set_option maxHeartbeats 4000000 in
theorem raftAlone_calls (la : Option Addr) (lc : Nat) (ns : List MNote) (ba : Option Addr) (bc : Nat) (bs : List Bool) (w : World) (h : SlAt w w.heap.size 1 la ns.length lc (ns.map MNote.cell)) (hn : ∀ m ∈ ns, NoteRd w m) (hb : SlAt w w.heap.size 1 ba bs.length bc (bs.map Value.bool)) :
    Calls Tryz.prog 6 #[.slice la ns.length lc, .slice ba bs.length bc] w fun e w' => e = .returned (.bool true) ∧ Below w.heap.size w w' := by
  have HL := Lib.hid h
  have HN := Lib.hid hn
  have HBS := Lib.hid hb
  clear h hn hb
  by_cases h1 : 30 < ns.length
  · have t1 : decide ((30 : Int) < (ns.length : Int)) = true := decide_eq_true (by omega)
    have t1n : decide (30 < ns.length) = true := decide_eq_true h1
    go_enter Tryz.func6, Tryz.ntmps6
    go_wp2_with fail
    refine (l18awake _).mono ?_
    rintro e w1 ⟨rfl, hb1⟩
    have HB1 := Lib.hid hb1
    clear hb1
    go_wp2
    go_ret
    exact ⟨rfl, HB1.out⟩
  have t1 : decide ((30 : Int) < (ns.length : Int)) = false := decide_eq_false (by omega)
  have t1n : decide (30 < ns.length) = false := decide_eq_false h1
  by_cases h2 : 30 < bs.length
  · have t2 : decide ((30 : Int) < (bs.length : Int)) = true := decide_eq_true (by omega)
    have t2n : decide (30 < bs.length) = true := decide_eq_true h2
    go_enter Tryz.func6, Tryz.ntmps6
    go_wp2_with fail
    refine (l18awake _).mono ?_
    rintro e w1 ⟨rfl, hb1⟩
    have HB1 := Lib.hid hb1
    clear hb1
    go_wp2
    go_ret
    exact ⟨rfl, HB1.out⟩
  have t2 : decide ((30 : Int) < (bs.length : Int)) = false := decide_eq_false (by omega)
  have t2n : decide (30 < bs.length) = false := decide_eq_false h2
  go_enter Tryz.func6, Tryz.ntmps6
  go_wp2_with fail
  refine (l18made 1 (by omega) (by omega) _).mono ?_
  rintro e w1 ⟨g, M1, rfl, hg1, hb1⟩
  obtain ⟨⟨p1, N1⟩, hq1⟩ : ∃ q, M1.ps[0]? = some q := ⟨_, List.getElem?_eq_getElem (by rw [hg1.rl]; decide)⟩
  have HG1 := Lib.hid hg1
  have HB1 := Lib.hid hb1
  clear hg1 hb1
  go_wp2_with fail
  refine (l18fair20 HG1.out hq1 fl_made (by omega) (by omega)).mono ?_
  rintro e w2 ⟨rfl, G2, R2, M2, N2, hg2, hq2, hl2, hb2⟩
  have HG2 := Lib.hid hg2
  have HL2 := Lib.hid hl2
  have HB2 := Lib.hid (HB1.out.trans hb2)
  clear hg2 hl2 hb2
  go_wp2_with fail
  obtain ⟨wo, hwo⟩ : ∃ wo : World, wo = w := ⟨_, rfl⟩
  have HWO := Lib.hid hwo
  rw [← hwo] at HG2 HL HN HBS HB2
  clear hwo
  go_loopw [6] (fun iv wr => ∃ (i : Nat) (G : PGroup) (R : PRaft) (M : GMem) (p : Nat) (N : RMem) (c : Nat), iv = .int .i64 i ∧ i ≤ ns.length ∧ GrAt wr wo.heap.size g 0 G M ∧ M.ps[0]? = some (p, N) ∧ Ld 1 G R (i + 1) c ∧ c ≤ 20 + 2 * i ∧ Below wo.heap.size wo wr) (fun iv _ => ns.length - (intOf iv).toNat)
  case atStart => exact ⟨0, G2, R2, M2, p1, N2, 20, rfl, by omega, HG2.out, hq2, HL2.out, by omega, HB2.out⟩
  case round =>
    obtain ⟨i, G, R, M, p, N, c, rfl, hi, hg, hq, hld, hc, hbe⟩ := hrel
    have HG := Lib.hid hg
    have HLD := Lib.hid hld
    have HBE := Lib.hid hbe
    clear hg hld hbe
    by_cases hil : i < ns.length
    · have ti : decide ((i : Int) < (ns.length : Int)) = true := decide_eq_true (by omega)
      have tin : decide (i < ns.length) = true := decide_eq_true hil
      obtain ⟨m, hm⟩ : ∃ m, ns[i]? = some m := ⟨_, List.getElem?_eq_getElem hil⟩
      have HMI := Lib.hid hm
      obtain ⟨lb, lo, rfl, hlb, hcell⟩ := HL.out.hat (by rw [List.length_map]; omega)
      have kl : wr.cell? ⟨lb, lo + i, none⟩ = some (.slice m.a m.b.length m.c) := by
        have h9 := hcell i (by rw [List.length_map]; exact hil)
        rw [List.getElem?_map, hm] at h9
        exact (HBE.out.cell (p := ⟨lb, lo + i, none⟩) hlb).trans h9
      have hi0 : (0 : Int) ≤ (i : Int) := by omega
      have hi1 : (i : Int) < (ns.length : Int) := by omega
      by_cases h3 : m.b.length < 1
      · have t3 : decide ((m.b.length : Int) < 1) = true := decide_eq_true (by omega)
        have t3n : decide (m.b.length < 1) = true := decide_eq_true h3
        clear hm hcell
        go_wp2_with fail
        refine (l18awake _).mono ?_
        rintro e w3 ⟨rfl, hb3⟩
        have HB3 := Lib.hid (HBE.out.trans (hb3.mono HBE.out.size))
        clear hb3 kl
        go_wp2
        go_ret
        exact ⟨rfl, by rw [← HWO.out]; exact HB3.out⟩
      have t3 : decide ((m.b.length : Int) < 1) = false := decide_eq_false (by omega)
      have t3n : decide (m.b.length < 1) = false := decide_eq_false h3
      by_cases h4 : 50 < m.b.length
      · have t4 : decide ((50 : Int) < (m.b.length : Int)) = true := decide_eq_true (by omega)
        have t4n : decide (50 < m.b.length) = true := decide_eq_true h4
        clear hm hcell
        go_wp2_with fail
        refine (l18awake _).mono ?_
        rintro e w3 ⟨rfl, hb3⟩
        have HB3 := Lib.hid (HBE.out.trans (hb3.mono HBE.out.size))
        clear hb3 kl
        go_wp2
        go_ret
        exact ⟨rfl, by rw [← HWO.out]; exact HB3.out⟩
      have t4 : decide ((50 : Int) < (m.b.length : Int)) = false := decide_eq_false (by omega)
      have t4n : decide (50 < m.b.length) = false := decide_eq_false h4
      have hmb := HN.out m (List.mem_of_getElem? hm) (by omega)
      have HMB := Lib.hid ((hmb.below HBE.out (Nat.le_refl _)).mono HBE.out.size)
      obtain ⟨hcol, hld3, hsn3, hbs3⟩ := HLD.out.proposed (b := m.b) (by omega) (by omega) (by omega)
      obtain ⟨G3, hG3⟩ : ∃ G3, G3 = ({ G with rs := [(R.propose m.b).1] } : PGroup).collected 0 (R.propose m.b).1 := ⟨_, rfl⟩
      obtain ⟨R3, hR3⟩ : ∃ R3 : PRaft, R3 = { (R.propose m.b).1 with news := [], applied := (R.propose m.b).1.commit } := ⟨_, rfl⟩
      rw [← hG3] at hsn3
      rw [← hG3, ← hR3] at hld3
      have HBS3 := Lib.hid (show R3.line.base ≤ ((i + 1 : Nat) : Int) by rw [hR3]; exact hbs3)
      have HCOL := Lib.hid hcol
      have HLD3 := Lib.hid hld3
      have HSN3 := Lib.hid hsn3
      have HG3 := Lib.hid hG3
      clear hmb hcol hld3 hsn3 hbs3 hG3 hR3 hm hcell
      go_wp2_with fail
      refine (l18step4 (Al.one HG.out hq HLD.out.al) m.a m.c m.b HMB.out HCOL.out).mono ?_
      rintro e w4 ⟨rfl, M4, N4, hg4, hq4, hn4, hb4⟩
      rw [← HG3.out] at hg4
      have hbe4 := HBE.out.trans hb4
      have HBE4 := Lib.hid hbe4
      have HMB4 := Lib.hid (((HN.out m (List.mem_of_getElem? HMI.out) (by omega)).below hbe4 (Nat.le_refl _)).mono hbe4.size)
      obtain ⟨i1, hi1q⟩ : ∃ i1 : Nat, i1 = i + 1 := ⟨_, rfl⟩
      obtain ⟨i2, hi2q⟩ : ∃ i2 : Nat, i2 = i + 2 := ⟨_, rfl⟩
      have wi1 : IntKind.i64.wrap ((i : Int) + 1) = (i1 : Int) := by rw [IntWalk.i64_in _ (by omega)]; omega
      have wi2 : IntKind.i64.wrap ((i : Int) + 2) = (i2 : Int) := by rw [IntWalk.i64_in _ (by omega)]; omega
      have HONE4 := Lib.hid (Al.one hg4 hq4 HLD3.out.al)
      have hats : G3.ats = [(i2 : Int)] := by rw [HLD3.out.al.ats, HLD3.out.ap]; congr 1; omega
      have hsl3 : G3.seen.length = i2 := by rw [HLD3.out.al.sl]; omega
      obtain ⟨b3, -, c3, k3, -, -⟩ := HONE4.out.row (j := 3) (by omega) (by show G3.ats.length = 1; rw [hats]; rfl) rfl
      obtain ⟨b5, ms, c5, k5, hms, hmso⟩ := seenRow hg4 HSN3.out
      rw [hsl3] at c5
      rw [← hi1q] at k5
      have kl4 : w4.cell? ⟨lb, lo + i, none⟩ = some (.slice m.a m.b.length m.c) := (hb4.cell (p := ⟨lb, lo + i, none⟩) hlb).trans kl
      have HS4 := Lib.hid (show AlS g b3 (M4.rc 3) b5 (M4.rc 5) i1 i2 lb (lo + i) (.slice ms.a ms.n ms.c) (.slice m.a m.b.length m.c) w4 from ⟨hg4.lt (x := .g) rfl, c3, by rw [k3]; show (G3.ats.map iz)[0]? = _; rw [hats]; rfl, c5, k5, kl4⟩)
      have HATS := Lib.hid hats
      have HMS := Lib.hid (show decide (ms.b = m.b) = true by
        have h9 := congrArg Prod.snd hms
        exact decide_eq_true h9)
      have HMSO := Lib.hid hmso
      have hi10 : (0 : Int) ≤ (i1 : Int) := by omega
      have hi11 : (i1 : Int) < (i2 : Int) := by omega
      have HG4 := Lib.hid hg4
      have HI1 := Lib.hid hi1q
      have HI2 := Lib.hid hi2q
      clear hi1q hi2q hg4 hb4 hbe4 c3 k3 c5 k5 kl4 kl hats hsl3 hms hmso
      go_wp2_with fail
      refine wp_region_any (by kernel_rfl) ?_
      refine wpAny_of_held (S := AlS g b3 (M4.rc 3) b5 (M4.rc 5) i1 i2 lb (lo + i) (.slice ms.a ms.n ms.c) (.slice m.a m.b.length m.c)) _ _ _ _ ?_
      obtain ⟨w5, hw5⟩ : ∃ w5, w5 = w4.drew := ⟨_, rfl⟩
      have hdr : Below w4.heap.size w4 w5 := by rw [hw5]; exact (Below.refl _ _).drew
      (refine (show wpAnyH _ _ _ _ _ _ _ _ w4.drew from ?_))
      rw [← hw5]
      clear hw5
      have hS : AlS g b3 (M4.rc 3) b5 (M4.rc 5) i1 i2 lb (lo + i) (.slice ms.a ms.n ms.c) (.slice m.a m.b.length m.c) w5 := HS4.out.below hdr
      refine heldTake 0 51 rfl rfl (by kernel_rfl) (by kernel_rfl) (by kernel_rfl) (fun _ _ _ h => h) hS (.inl ⟨by rfl, by intro w' hS; obtain ⟨s1, s2, s3, s4, s5, s6⟩ := hS; go_simp; (try rfl)⟩) ?_
      simp only [List.set_cons_zero, List.set_cons_succ]
      refine heldTake 6 57 rfl rfl (by kernel_rfl) (by kernel_rfl) (by kernel_rfl) (fun _ _ _ h => h) hS (.inl ⟨by rfl, by intro w' hS; obtain ⟨s1, s2, s3, s4, s5, s6⟩ := hS; go_simp; (try rfl)⟩) ?_
      simp only [List.set_cons_zero, List.set_cons_succ]
      refine heldTake 1 52 rfl rfl (by kernel_rfl) (by kernel_rfl) (by kernel_rfl) (fun _ _ _ h => h) hS (.inl ⟨by rfl, by intro w' hS; obtain ⟨s1, s2, s3, s4, s5, s6⟩ := hS; go_simp; (try rfl)⟩) ?_
      simp only [List.set_cons_zero, List.set_cons_succ]
      refine heldTake 7 58 (v := .int .i64 i2) rfl rfl (by kernel_rfl) (by kernel_rfl) (by kernel_rfl) (fun _ _ _ h => h) hS (.inl ⟨by rfl, by intro w' hS; clear hS; go_simp; (try (all_goals rfl))⟩) ?_
      simp only [List.set_cons_zero, List.set_cons_succ]
      refine heldTake 2 53 rfl rfl (by kernel_rfl) (by kernel_rfl) (by kernel_rfl) (fun _ _ _ h => h) hS (.inl ⟨by rfl, by intro w' hS; obtain ⟨s1, s2, s3, s4, s5, s6⟩ := hS; go_simp; (try rfl)⟩) ?_
      simp only [List.set_cons_zero, List.set_cons_succ]
      refine heldTake 3 54 rfl rfl (by kernel_rfl) (by kernel_rfl) (by kernel_rfl) (fun _ _ _ h => h) hS (.inl ⟨by rfl, by intro w' hS; obtain ⟨s1, s2, s3, s4, s5, s6⟩ := hS; go_simp; (try rfl)⟩) ?_
      simp only [List.set_cons_zero, List.set_cons_succ]
      refine heldTake 4 55 rfl rfl (by kernel_rfl) (by kernel_rfl) (by kernel_rfl) (fun _ _ _ h => h) hS (.inl ⟨by rfl, by intro w' hS; obtain ⟨s1, s2, s3, s4, s5, s6⟩ := hS; go_simp; (try rfl)⟩) ?_
      simp only [List.set_cons_zero, List.set_cons_succ]
      refine heldTake 5 56 rfl rfl (by kernel_rfl) (by kernel_rfl) (by kernel_rfl) (fun _ _ _ h => h) hS (.inl ⟨by rfl, by intro w' hS; obtain ⟨s1, s2, s3, s4, s5, s6⟩ := hS; go_simp; (try rfl)⟩) ?_
      simp only [List.set_cons_zero, List.set_cons_succ]
      refine heldTake 8 59 (v := .bool false) rfl rfl (by kernel_rfl) (by kernel_rfl) (by kernel_rfl) (fun _ _ _ h => h) hS (.inl ⟨by rfl, by intro w' hS; clear hS; go_simp; (try (all_goals rfl))⟩) ?_
      simp only [List.set_cons_zero, List.set_cons_succ]
      refine heldTake 9 60 rfl rfl (by kernel_rfl) (by kernel_rfl) (by kernel_rfl) (fun _ _ _ h => h) hS (.inl ⟨by rfl, by intro w' hS; obtain ⟨s1, s2, s3, s4, s5, s6⟩ := hS; go_simp; (try rfl)⟩) ?_
      simp only [List.set_cons_zero, List.set_cons_succ]
      refine heldTake 10 61 rfl rfl (by kernel_rfl) (by kernel_rfl) (by kernel_rfl) (fun _ _ _ h => h) hS (.inl ⟨by rfl, by intro w' hS; obtain ⟨s1, s2, s3, s4, s5, s6⟩ := hS; go_simp; (try rfl)⟩) ?_
      simp only [List.set_cons_zero, List.set_cons_succ]
      refine heldTake 15 66 rfl rfl (by kernel_rfl) (by kernel_rfl) (by kernel_rfl) (fun _ _ _ h => h) hS (.inl ⟨by rfl, by intro w' hS; obtain ⟨s1, s2, s3, s4, s5, s6⟩ := hS; go_simp; (try rfl)⟩) ?_
      simp only [List.set_cons_zero, List.set_cons_succ]
      refine heldTake 11 62 rfl rfl (by kernel_rfl) (by kernel_rfl) (by kernel_rfl) (fun _ _ _ h => h) hS (.inl ⟨by rfl, by intro w' hS; obtain ⟨s1, s2, s3, s4, s5, s6⟩ := hS; go_simp; (try rfl)⟩) ?_
      simp only [List.set_cons_zero, List.set_cons_succ]
      refine heldTake 16 67 (v := .int .i64 i2) rfl rfl (by kernel_rfl) (by kernel_rfl) (by kernel_rfl) (fun _ _ _ h => h) hS (.inl ⟨by rfl, by intro w' hS; clear hS; go_simp; (try (all_goals rfl))⟩) ?_
      simp only [List.set_cons_zero, List.set_cons_succ]
      refine heldTake 12 63 rfl rfl (by kernel_rfl) (by kernel_rfl) (by kernel_rfl) (fun _ _ _ h => h) hS (.inl ⟨by rfl, by intro w' hS; obtain ⟨s1, s2, s3, s4, s5, s6⟩ := hS; go_simp; (try rfl)⟩) ?_
      simp only [List.set_cons_zero, List.set_cons_succ]
      refine heldTake 13 64 rfl rfl (by kernel_rfl) (by kernel_rfl) (by kernel_rfl) (fun _ _ _ h => h) hS (.inl ⟨by rfl, by intro w' hS; obtain ⟨s1, s2, s3, s4, s5, s6⟩ := hS; go_simp; (try rfl)⟩) ?_
      simp only [List.set_cons_zero, List.set_cons_succ]
      refine heldTake 14 65 rfl rfl (by kernel_rfl) (by kernel_rfl) (by kernel_rfl) (fun _ _ _ h => h) hS (.inl ⟨by rfl, by intro w' hS; obtain ⟨s1, s2, s3, s4, s5, s6⟩ := hS; go_simp; (try rfl)⟩) ?_
      simp only [List.set_cons_zero, List.set_cons_succ]
      refine heldTake 17 68 (v := .bool false) rfl rfl (by kernel_rfl) (by kernel_rfl) (by kernel_rfl) (fun _ _ _ h => h) hS (.inl ⟨by rfl, by intro w' hS; clear hS; go_simp; (try (all_goals rfl))⟩) ?_
      simp only [List.set_cons_zero, List.set_cons_succ]
      refine heldTake 18 69 (v := .bool false) rfl rfl (by kernel_rfl) (by kernel_rfl) (by kernel_rfl) (fun _ _ _ h => h) hS (.inl ⟨by rfl, by intro w' hS; clear hS; go_simp; (try (all_goals rfl))⟩) ?_
      simp only [List.set_cons_zero, List.set_cons_succ]
      refine heldTake 19 70 rfl rfl (by kernel_rfl) (by kernel_rfl) (by kernel_rfl) (fun _ _ _ h => h) hS (.inl ⟨by rfl, by intro w' hS; obtain ⟨s1, s2, s3, s4, s5, s6⟩ := hS; go_simp; (try rfl)⟩) ?_
      simp only [List.set_cons_zero, List.set_cons_succ]
      refine heldTake 20 71 rfl rfl (by kernel_rfl) (by kernel_rfl) (by kernel_rfl) (fun _ _ _ h => h) hS (.inl ⟨by rfl, by intro w' hS; obtain ⟨s1, s2, s3, s4, s5, s6⟩ := hS; go_simp; (try rfl)⟩) ?_
      simp only [List.set_cons_zero, List.set_cons_succ]
      refine heldTake 24 75 rfl rfl (by kernel_rfl) (by kernel_rfl) (by kernel_rfl) (fun _ _ _ h => h) hS (.inl ⟨by rfl, by intro w' hS; obtain ⟨s1, s2, s3, s4, s5, s6⟩ := hS; go_simp; (try rfl)⟩) ?_
      simp only [List.set_cons_zero, List.set_cons_succ]
      refine heldTake 29 80 rfl rfl (by kernel_rfl) (by kernel_rfl) (by kernel_rfl) (fun _ _ _ h => h) hS (.inl ⟨by rfl, by intro w' hS; obtain ⟨s1, s2, s3, s4, s5, s6⟩ := hS; go_simp; (try rfl)⟩) ?_
      simp only [List.set_cons_zero, List.set_cons_succ]
      refine heldTake 30 81 rfl rfl (by kernel_rfl) (by kernel_rfl) (by kernel_rfl) (fun _ _ _ h => h) hS (.inl ⟨by rfl, by intro w' hS; obtain ⟨s1, s2, s3, s4, s5, s6⟩ := hS; go_simp; (try rfl)⟩) ?_
      simp only [List.set_cons_zero, List.set_cons_succ]
      refine heldTake 21 72 rfl rfl (by kernel_rfl) (by kernel_rfl) (by kernel_rfl) (fun _ _ _ h => h) hS (.inl ⟨by rfl, by intro w' hS; obtain ⟨s1, s2, s3, s4, s5, s6⟩ := hS; go_simp; (try rfl)⟩) ?_
      simp only [List.set_cons_zero, List.set_cons_succ]
      refine heldTake 25 76 (v := .int .i64 i1) rfl rfl (by kernel_rfl) (by kernel_rfl) (by kernel_rfl) (fun _ _ _ h => h) hS (.inl ⟨by rfl, by intro w' hS; clear hS; go_simp; (try (all_goals rfl))⟩) ?_
      simp only [List.set_cons_zero, List.set_cons_succ]
      refine heldTake 31 82 rfl rfl (by kernel_rfl) (by kernel_rfl) (by kernel_rfl) (fun _ _ _ h => h) hS (.inl ⟨by rfl, by intro w' hS; obtain ⟨s1, s2, s3, s4, s5, s6⟩ := hS; go_simp; (try rfl)⟩) ?_
      simp only [List.set_cons_zero, List.set_cons_succ]
      refine heldTake 22 73 rfl rfl (by kernel_rfl) (by kernel_rfl) (by kernel_rfl) (fun _ _ _ h => h) hS (.inl ⟨by rfl, by intro w' hS; obtain ⟨s1, s2, s3, s4, s5, s6⟩ := hS; go_simp; (try rfl)⟩) ?_
      simp only [List.set_cons_zero, List.set_cons_succ]
      refine heldTake 32 83 rfl rfl (by kernel_rfl) (by kernel_rfl) (by kernel_rfl) (fun _ _ _ h => h) hS (.inl ⟨by rfl, by intro w' hS; obtain ⟨s1, s2, s3, s4, s5, s6⟩ := hS; go_simp; (try rfl)⟩) ?_
      simp only [List.set_cons_zero, List.set_cons_succ]
      refine heldTake 23 74 rfl rfl (by kernel_rfl) (by kernel_rfl) (by kernel_rfl) (fun _ _ _ h => h) hS (.inl ⟨by rfl, by intro w' hS; obtain ⟨s1, s2, s3, s4, s5, s6⟩ := hS; go_simp; (try rfl)⟩) ?_
      simp only [List.set_cons_zero, List.set_cons_succ]
      refine heldTake 26 77 rfl rfl (by kernel_rfl) (by kernel_rfl) (by kernel_rfl) (fun _ _ _ h => h) hS (.inl ⟨by rfl, by intro w' hS; obtain ⟨s1, s2, s3, s4, s5, s6⟩ := hS; go_simp; (try rfl)⟩) ?_
      simp only [List.set_cons_zero, List.set_cons_succ]
      refine heldTake 27 78 rfl rfl (by kernel_rfl) (by kernel_rfl) (by kernel_rfl) (fun _ _ _ h => h) hS (.inl ⟨by rfl, by intro w' hS; obtain ⟨s1, s2, s3, s4, s5, s6⟩ := hS; go_simp; (try rfl)⟩) ?_
      simp only [List.set_cons_zero, List.set_cons_succ]
      refine heldTake 28 79 rfl rfl (by kernel_rfl) (by kernel_rfl) (by kernel_rfl) (fun _ _ _ h => h) hS (.inl ⟨by rfl, by intro w' hS; obtain ⟨s1, s2, s3, s4, s5, s6⟩ := hS; go_simp; (try rfl)⟩) ?_
      simp only [List.set_cons_zero, List.set_cons_succ]
      have HSX := Lib.hid hS
      clear hS
      refine heldOne 33 (by kernel_rfl) rfl (by rfl) ?_
      go_simp
      refine (r1Bytes ms.b m.b ms.a m.a ms.n ms.c m.b.length m.c _ (OwnBs.below HMSO.out hdr).1 ((HMB4.out.below hdr (Nat.le_refl _)).mono hdr.size)).mono ?_
      rintro e w6 ⟨rfl, hb6⟩
      rw [HMS.out]
      have hS6 := HSX.out.below hb6
      have HB46 := Lib.hid (hdr.trans (hb6.mono hdr.size))
      refine ⟨hS6, ?_⟩
      refine heldTake 34 85 (v := .bool false) rfl rfl (by kernel_rfl) (by kernel_rfl) (by kernel_rfl) (fun _ _ _ h => h) hS6 (.inl ⟨by rfl, by intro w' hS; clear hS; go_simp; (try (all_goals rfl))⟩) ?_
      simp only [List.set_cons_zero, List.set_cons_succ]
      refine heldTake 35 86 (v := .bool false) rfl rfl (by kernel_rfl) (by kernel_rfl) (by kernel_rfl) (fun _ _ _ h => h) hS6 (.inl ⟨by rfl, by intro w' hS; clear hS; go_simp; (try (all_goals rfl))⟩) ?_
      simp only [List.set_cons_zero, List.set_cons_succ]
      refine wpAnyH_done (by kernel_rfl) ?_ _
      have HG6 := Lib.hid (HG4.out.below HB46.out)
      have HBE6 := Lib.hid (HBE4.out.trans (HB46.out.mono HBE4.out.size))
      clear hS6 hb6 hdr
      by_cases h5 : i < bs.length
      · have t5 : decide ((i : Int) < (bs.length : Int)) = true := decide_eq_true (by omega)
        have t5n : decide (i < bs.length) = true := decide_eq_true h5
        obtain ⟨v, hv⟩ : ∃ v, bs[i]? = some v := ⟨_, List.getElem?_eq_getElem h5⟩
        obtain ⟨cb, co, rfl, hcb, hcell5⟩ := HBS.out.hat (by rw [List.length_map]; omega)
        have kb : w6.cell? ⟨cb, co + i, none⟩ = some (.bool v) := by
          have h9 := hcell5 i (by rw [List.length_map]; exact h5)
          rw [List.getElem?_map, hv] at h9
          exact (HBE6.out.cell (p := ⟨cb, co + i, none⟩) hcb).trans h9
        have hi3 : (i : Int) < (bs.length : Int) := by omega
        clear hcell5 hv
        cases v with
        | false =>
          go_wp2_with fail
          go_roundw
          case rel => exact ⟨i + 1, G3, R3, M4, p, N4, c + 1, by rw [HI1.out], by omega, HG6.out, hq4, HLD3.out, by omega, HBE6.out⟩
          case measure => have h9 := HI1.out; simp [intOf]; omega
        | true =>
          obtain ⟨x1, x2, x3, x4, x5, x6, x7⟩ := HLD3.out.compacted (s := atBytes i2) (by omega) (by have h9 := HBS3.out; omega) (by simp [atBytes])
          obtain ⟨G7, hG7⟩ : ∃ G7, G7 = ({ G3 with rs := [(R3.compact (atBytes i2)).1], hd := [(R3.compact (atBytes i2)).1.head], nt := [[]] } : PGroup).collected 0 (R3.compact (atBytes i2)).1 := ⟨_, rfl⟩
          obtain ⟨R7, hR7⟩ : ∃ R7 : PRaft, R7 = { (R3.compact (atBytes i2)).1 with news := [], applied := (R3.compact (atBytes i2)).1.commit } := ⟨_, rfl⟩
          rw [← hG7, ← hR7] at x6
          have HLD7 := Lib.hid x6
          have HBASE := Lib.hid (show R7.line.base = (i2 : Int) by rw [hR7]; have h9 := HI2.out; show (R3.compact (atBytes i2)).1.line.base = _; rw [x7]; omega)
          obtain ⟨hd3, nt3, hhd3, hnt3, -⟩ := HLD3.out.al.st
          have HST := Lib.hid (l18step6 (Al.one HG6.out hq4 HLD3.out.al) hhd3 hnt3 HATS.out (by have h9 := HI2.out; omega) x1 x2 x3 x4 x5)
          rw [← hG7] at HST
          clear x1 x2 x3 x4 x5 x6 x7 hhd3 hnt3 hG7 hR7
          go_wp2_with fail
          refine HST.out.mono ?_
          rintro e w7 ⟨rfl, M7, N7, hg7, hq7, hn7, hb7⟩
          have HONE7 := Lib.hid (Al.one hg7 hq7 HLD7.out.al)
          have HBE7 := Lib.hid (HBE6.out.trans hb7)
          obtain ⟨b0, c0, cp, -⟩ := HONE7.out.cells
          clear hg7 hb7 kb
          go_wp2_with fail
          refine (raftLine HLD7.out.al.ok.line HONE7.out.rf).mono ?_
          rintro e w8 ⟨q8, la8, lc8, rfl, hln8, hb8, hq8⟩
          have HLN8 := Lib.hid hln8
          have HONE8 := Lib.hid (HONE7.out.below hb8)
          have HBE8 := Lib.hid (HBE7.out.trans (hb8.mono HONE7.out.gr.bs))
          clear hln8 hb8 c0 cp
          go_wp2_with fail
          refine (lineBase _ q8 R7.line la8 lc8 N7.ms _ HLN8.out).mono ?_
          rintro e w9 ⟨rfl, m9, hm9⟩
          have hb9 : Below w8.heap.size w8 w9 := by rw [hm9]; exact below_drewN w8 m9
          have HG9 := Lib.hid (HONE8.out.below hb9).gr
          have HBE9 := Lib.hid (HBE8.out.trans (hb9.mono HONE8.out.gr.bs))
          rw [HBASE.out]
          clear hb9 hm9
          go_wp2_with fail
          go_roundw
          case rel => exact ⟨i + 1, G7, R7, M7, p, N7, c + 1 + 1, by rw [HI1.out], by omega, HG9.out, hq7, HLD7.out, by omega, HBE9.out⟩
          case measure => have h9 := HI1.out; simp [intOf]; omega
      · have t5 : decide ((i : Int) < (bs.length : Int)) = false := decide_eq_false (by omega)
        have t5n : decide (i < bs.length) = false := decide_eq_false h5
        go_wp2_with fail
        go_roundw
        case rel => exact ⟨i + 1, G3, R3, M4, p, N4, c + 1, by rw [HI1.out], by omega, HG6.out, hq4, HLD3.out, by omega, HBE6.out⟩
        case measure => have h9 := HI1.out; simp [intOf]; omega
    · have hin : i = ns.length := by omega
      have ti : decide ((i : Int) < (ns.length : Int)) = false := decide_eq_false (by omega)
      have tin : decide (i < ns.length) = false := decide_eq_false hil
      obtain ⟨hd, nts, Rb, h1, h2, h3, h4, h5, h6⟩ := HLD.out.al.loaded (by omega)
      have HST := Lib.hid (l18step5 (Al.one HG.out hq HLD.out.al) h1 h2 HLD.out.al.ats h3 h4 h5)
      rw [HLD.out.bt] at h6
      have HFL := Lib.hid h6
      clear h1 h2 h3 h4 h5 h6
      go_wp2_with fail
      refine HST.out.mono ?_
      rintro e w3 ⟨p3, rfl, M3, N3, hg3, hq3, hn3, hb3⟩
      have HG3 := Lib.hid hg3
      have HBE3 := Lib.hid (HBE.out.trans hb3)
      clear hg3 hb3
      go_wp2_with fail
      refine (l18fair20 HG3.out hq3 HFL.out (by omega) (by omega)).mono ?_
      rintro e w4 ⟨rfl, G4, R4, M4, N4, hg4, hq4, hl4, hb4⟩
      have HBE4 := Lib.hid (HBE3.out.trans hb4)
      obtain ⟨n2, hn2⟩ : ∃ n2 : Nat, n2 = ns.length + 2 := ⟨_, rfl⟩
      have wn2 : IntKind.i64.wrap ((ns.length : Int) + 2) = (n2 : Int) := by rw [IntWalk.i64_in _ (by omega)]; omega
      have HONE4 := Lib.hid (Al.one hg4 hq4 hl4.al)
      have cr : w4.cell? ⟨g, 8, none⟩ = some (.bool true) := by rw [← hl4.al.right]; exact hg4.cr
      have hats : G4.ats = [(n2 : Int)] := by rw [hl4.al.ats, hl4.ap]; congr 1; omega
      obtain ⟨b3, -, c3, k3, -, -⟩ := HONE4.out.row (j := 3) (by omega) (by show G4.ats.length = 1; rw [hats]; rfl) rfl
      replace k3 : w4.cell? ⟨b3, 0, none⟩ = some (.int .i64 n2) := by rw [k3]; show (G4.ats.map iz)[0]? = _; rw [hats]; rfl
      have hss : M4.ss.length = n2 := by
        have h9 := hl4.al.sl
        rw [← hg4.ct.sq, List.length_map] at h9
        omega
      have c5 : w4.cell? ⟨g, 5, none⟩ = some (.slice (M4.ra 5) n2 (M4.rc 5)) := by rw [← hss]; exact hg4.cl (i := 5) (by omega)
      obtain ⟨b0, c0, cp, -⟩ := HONE4.out.cells
      have HROLE := Lib.hid hl4.role
      have HBT := Lib.hid (show R4.bt = 2 from hl4.bt)
      clear hg4 hl4 hb4 hats hss hn2
      go_wp2_with fail
      refine (raftRole HONE4.out.rf).mono ?_
      rintro e w5 ⟨rfl, rfl⟩
      rw [HROLE.out]
      go_wp2_with fail
      refine (raftTerm HONE4.out.rf).mono ?_
      rintro e w5 ⟨rfl, rfl⟩
      rw [HBT.out]
      go_wp2_with fail
      refine (l18awake _).mono ?_
      rintro e w5 ⟨rfl, hb5⟩
      have HBE5 := Lib.hid (HBE4.out.trans (hb5.mono HBE4.out.size))
      clear hb5 cr c3 k3 c5 c0 cp
      go_wp2
      go_ret
      exact ⟨rfl, by rw [← HWO.out]; exact HBE5.out⟩
end Go.Proofs.YtogcnfhmcpkdcaaGreat
