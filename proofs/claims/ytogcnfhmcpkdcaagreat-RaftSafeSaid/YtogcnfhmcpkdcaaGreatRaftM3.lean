/-
  Contract of stand.
  Contract of Tick.
  Contracts of Next and Propose.
  Contract of Propose.
-/
import Derived.Test.YtogcnfhmcpkdcaaGreatRaftM2
namespace Go.Proofs.YtogcnfhmcpkdcaaGreat
open Go.RowKit
set_option linter.unusedVariables false
set_option linter.unusedSimpArgs false
set_option maxRecDepth 100000 in
theorem raftStand1 (p : Nat) (R : PRaft) (M : RMem) (b1 b2 b3 : Nat) (who i t : Int) (hn : R.out.length ≤ 1000000000) (w : World) (h : RfAt w p R M) (h1 : w.cell? ⟨b1, 0, none⟩ = some (.pointer (some ⟨p, 0, none⟩))) (h2 : w.cell? ⟨b2, 0, none⟩ = some (.int .i64 i)) (h3 : w.cell? ⟨b3, 0, none⟩ = some (.int .i64 t)) :
  Calls Tryz.prog 71 #[.int .i64 who, .pointer (some ⟨b1, 0, none⟩), .pointer (some ⟨b2, 0, none⟩), .pointer (some ⟨b3, 0, none⟩)] w fun e w' => e = .returned (.tuple #[]) ∧ ∃ M', RfAt w' p (R.post who ⟨1, 0, i, t, 0, false, [], []⟩) M' ∧ RTouch p M M' w w' := by
 have HR := Hh h;clear h;go_enter Tryz.func71, Tryz.ntmps71
 go_wp2_with fail;refine (raftPost0 p R M who ⟨1, 0, i, t, 0, false, [], []⟩ rfl rfl hn _ HR.out).mono ?_;rintro e w1 ⟨rfl, M', hr1, ht1⟩;have HR1 := Hh hr1;have HT1 := Hh ht1;clear hr1 ht1 h1 h2 h3;go_wp2;go_end0;exact ⟨rfl, M', HR1.out, HT1.out⟩
theorem goLead_eq (R : PRaft) : R.goLead.me = R.me ∧ R.goLead.n = R.n := by
 unfold PRaft.goLead;obtain ⟨o, ho, -⟩ := others_out (f := PRaft.send) send_eq R.lead1.look;obtain ⟨m, c, hl, -⟩ := look_eq R.lead1;rw [ho];show R.lead1.look.me = _ ∧ R.lead1.look.n = _;rw [hl];show R.lead1.me = _ ∧ R.lead1.n = _;unfold PRaft.lead1;simp only;split <;> exact ⟨rfl, rfl⟩
theorem count_eq (R : PRaft) (x : Int) : (R.count x).me = R.me ∧ (R.count x).n = R.n := by
 unfold PRaft.count;simp only;split
 ·exact goLead_eq _
 ·exact ⟨rfl, rfl⟩
structure StS (b p : Nat) (me : Int) (W : World) : Prop where
 bx : W.cell? ⟨b, 0, none⟩ = some (.pointer (some ⟨p, 0, none⟩))
 c0 : W.cell? ⟨p, 0, none⟩ = some (.int .i64 me)
theorem RfAt.setBallot {w : World} {p : Nat} {R : PRaft} {M : RMem} (h : RfAt w p R M) (t f : Int) : RfAt ((w.setCell ⟨p, 2, none⟩ (iz t)).setCell ⟨p, 3, none⟩ (iz f)) p { R with bt := t, bf := f } M ∧ RTouch p M M w ((w.setCell ⟨p, 2, none⟩ (iz t)).setCell ⟨p, 3, none⟩ (iz f)) := by
 obtain ⟨a1, b1⟩ := h.set (R' := { R with bt := t }) 2 (iz t) (rcells_setHead (by omega) rfl rfl rfl rfl rfl) (h.sv.cp rfl rfl rfl) rfl rfl rfl rfl;obtain ⟨a2, b2⟩ := a1.set (R' := { R with bt := t, bf := f }) 3 (iz f) (rcells_setHead (by omega) rfl rfl rfl rfl rfl) (a1.sv.cp rfl rfl rfl) rfl rfl rfl rfl;exact ⟨a2, b1.trans b2⟩
theorem RTouch.cell {p : Nat} {M M' : RMem} {w w' : World} (h : RTouch p M M' w w') {b o : Nat} (hb : b < w.heap.size) (hn : ¬ M.own p b) : w'.cell? ⟨b, o, none⟩ = w.cell? ⟨b, o, none⟩ := World.cell?_of_block (a := ⟨b, o, none⟩) (h.block b hb hn)
theorem RfAt.clearVotes {w : World} {p : Nat} {R : PRaft} {M : RMem} (h : RfAt w p R M) : RfAt (((((((w.setCell ⟨p, 11, none⟩ (iz 0)).setCell ⟨p, 12, none⟩ (iz 0)).setCell ⟨p, 13, none⟩ (iz 0)).setCell ⟨p, 14, none⟩ (iz 0)).setCell ⟨p, 15, none⟩ (iz 0)).setCell ⟨p, 16, none⟩ (iz 0)).setCell ⟨p, 17, none⟩ (iz 0)) p { R with votes := zeros7 } M ∧ RTouch p M M w (((((((w.setCell ⟨p, 11, none⟩ (iz 0)).setCell ⟨p, 12, none⟩ (iz 0)).setCell ⟨p, 13, none⟩ (iz 0)).setCell ⟨p, 14, none⟩ (iz 0)).setCell ⟨p, 15, none⟩ (iz 0)).setCell ⟨p, 16, none⟩ (iz 0)).setCell ⟨p, 17, none⟩ (iz 0)) := by
 obtain ⟨a1, b1⟩ := h.setVotes (j := 0) (by omega) 0;obtain ⟨a2, b2⟩ := a1.setVotes (j := 1) (by omega) 0;obtain ⟨a3, b3⟩ := a2.setVotes (j := 2) (by omega) 0;obtain ⟨a4, b4⟩ := a3.setVotes (j := 3) (by omega) 0;obtain ⟨a5, b5⟩ := a4.setVotes (j := 4) (by omega) 0;obtain ⟨a6, b6⟩ := a5.setVotes (j := 5) (by omega) 0;obtain ⟨a7, b7⟩ := a6.setVotes (j := 6) (by omega) 0;refine ⟨?_, (((((b1.trans b2).trans b3).trans b4).trans b5).trans b6).trans b7⟩;obtain ⟨v0, v1, v2, v3, v4, v5, v6, hv⟩ := list7 h.sv.v7;simp only [hv] at a7;exact a7
theorem RfAt.votesCells {w : World} {p : Nat} {R : PRaft} {M : RMem} (h : RfAt w p R M) : w.cell? ⟨p, 11, none⟩ = some (iz (R.votes.getD 0 0)) ∧ w.cell? ⟨p, 12, none⟩ = some (iz (R.votes.getD 1 0)) ∧ w.cell? ⟨p, 13, none⟩ = some (iz (R.votes.getD 2 0)) ∧ w.cell? ⟨p, 14, none⟩ = some (iz (R.votes.getD 3 0)) ∧ w.cell? ⟨p, 15, none⟩ = some (iz (R.votes.getD 4 0)) ∧ w.cell? ⟨p, 16, none⟩ = some (iz (R.votes.getD 5 0)) ∧ w.cell? ⟨p, 17, none⟩ = some (iz (R.votes.getD 6 0)) :=
 ⟨h.c (rcells_votes h.sv (j := 0) (by omega)), h.c (rcells_votes h.sv (j := 1) (by omega)), h.c (rcells_votes h.sv (j := 2) (by omega)), h.c (rcells_votes h.sv (j := 3) (by omega)), h.c (rcells_votes h.sv (j := 4) (by omega)), h.c (rcells_votes h.sv (j := 5) (by omega)), h.c (rcells_votes h.sv (j := 6) (by omega))⟩
set_option maxRecDepth 100000 in
set_option maxHeartbeats 2000000 in
theorem raftStand (p : Nat) (R : PRaft) (M : RMem) (hn1 : 1 ≤ R.n) (hn7 : R.n ≤ 7) (hm0 : 0 ≤ R.me) (hmn : R.me < R.n) (hb0 : 0 ≤ R.bt) (hb1 : R.bt ≤ 1099511627776) (hg : R.line.Good) (hnw : R.news.length ≤ 999980000) (ho : R.out.length ≤ 999998000) (w : World) (h : RfAt w p R M) :
  Calls Tryz.prog 41 #[.pointer (some ⟨p, 0, none⟩)] w fun e w' => e = .returned (.tuple #[]) ∧ ∃ M', RfAt w' p R.stand M' ∧ RTouch p M M' w w' := by
 obtain ⟨a1, b1⟩ := h.setTicks 0;obtain ⟨W1, hW1⟩ : ∃ W1, W1 = (w.setCell ⟨p, 10, none⟩ (iz 0)).alloc (.cells #[.pointer (some ⟨p, 0, none⟩)] 25) := ⟨_, rfl⟩
 have hsz : (w.setCell ⟨p, 10, none⟩ (iz 0)).heap.size = w.heap.size := by simp
 have hbW : Below (w.setCell ⟨p, 10, none⟩ (iz 0)).heap.size (w.setCell ⟨p, 10, none⟩ (iz 0)) W1 := by rw [hW1]; exact (Below.refl _ _).alloc (Nat.le_refl _) _
 have hpl := h.lt;have hno : ¬ M.own p w.heap.size := h.notNew (Nat.le_refl _);have HR1 := Hh (a1.below hbW);have HT1 := Hh (b1.trans (.ofBelow hbW));have HBX1 := Hh (show W1.cell? ⟨w.heap.size, 0, none⟩ = some (.pointer (some ⟨p, 0, none⟩)) by
  rw [hW1];have h9 := cell_of_row _ (w.setCell ⟨p, 10, none⟩ (iz 0)).heap.size 0 _ _ _ (heap_alloc_new (w.setCell ⟨p, 10, none⟩ (iz 0)) (.cells #[.pointer (some ⟨p, 0, none⟩)] 25));rw [hsz] at h9;exact h9)
 have hs1 : w.heap.size < W1.heap.size := by rw [hW1]; simp
 have HG := Hh hg;have HNO := Hh hno;have c10 : w.cell? ⟨p, 10, none⟩ = some (.int .i64 R.ticks) := h.c rfl;have c2 : w.cell? ⟨p, 2, none⟩ = some (.int .i64 R.bt) := h.c rfl;have f10 := h.f 10;have HW1 := Hh hW1;clear a1 b1 hbW hW1 hno hsz h hg;by_cases hmx : 1099511627776 ≤ R.bt
 ·have t1 : decide (1099511627776 ≤ R.bt) = true := by simpa using hmx
  have HF := Hh (show R.stand = { R with ticks := 0 } by unfold PRaft.stand; rw [if_pos hmx]);clear hmx;go_enter Tryz.func41, Tryz.ntmps41
  go_wp2;refine bodyPost_ret (results_none rfl _ _ _) rfl ?_;rw [HF.out, ← HW1.out];exact ⟨rfl, M, HR1.out, HT1.out⟩
 ·have t1 : decide (1099511627776 ≤ R.bt) = false := by simpa using hmx
  have hbt : R.bt + 1 ≤ 1099511627776 := by omega
  have wb : IntKind.i64.wrap (R.bt + 1) = R.bt + 1 := IntWalk.i64_in _ (by omega);have HST := Hh (show R.stand = (R.stand0.others fun S who => S.post who ⟨1, 0, R.line.last, (tmIs R.line R.line.last).1, 0, false, [], []⟩).count R.me by unfold PRaft.stand; rw [if_neg hmx]);clear hmx;go_enter Tryz.func41, Tryz.ntmps41
  go_wp2_with fail;rw [← HW1.out];clear c10 c2 f10;refine OpR (S := StS w.heap.size p R.me) ?_;have hdr : Below W1.heap.size W1 W1.drew := (Below.refl _ _).drew;have HR2 := Hh (HR1.out.below hdr);have hS0 : StS w.heap.size p R.me W1.drew := ⟨(hdr.cell (p := ⟨w.heap.size, 0, none⟩) hs1).trans HBX1.out, HR2.out.c rfl⟩
  refine hT 0 13 hS0 ?_;refine hT 1 14 hS0 ?_;refine hT 7 20 hS0 ?_;refine hT 2 15 hS0 ?_;refine hT 8 21 hS0 ?_;refine hT 3 16 hS0 ?_;refine hT 9 22 hS0 ?_;refine hT 4 17 hS0 ?_;refine hT 10 23 hS0 ?_;have c2 : W1.drew.cell? ⟨p, 2, none⟩ = some (.int .i64 R.bt) := HR2.out.c rfl;have HS0 := Hh hS0;clear hS0;refine Op1 5 ?_;go_simp;clear c2;have hS0 := HS0.out;refine ⟨hS0, ?_⟩;refine heldTake 6 19 (v := .int .i64 (R.bt + 1)) rfl rfl (by kernel_rfl) (by kernel_rfl) (by kernel_rfl) (fun _ _ _ h => h) hS0 (.inl ⟨by rfl, by intro w' hS; clear hS; go_simp; (try (all_goals rfl))⟩) ?_;simp only [List.set_cons_zero, List.set_cons_succ];refine heldTake 11 24 (v := .agg #[.int .i64 (R.bt + 1), .int .i64 R.me]) rfl rfl (by kernel_rfl) (by kernel_rfl) (by kernel_rfl) (fun _ _ _ h => h) hS0 (.inl ⟨by rfl, by intro w' hS; clear hS; go_simp; (try (all_goals rfl))⟩) ?_;simp only [List.set_cons_zero, List.set_cons_succ];refine hT 12 25 hS0 ?_;refine hT 13 26 hS0 ?_;clear hS0;have c2 : W1.cell? ⟨p, 2, none⟩ = some (.int .i64 R.bt) := HR1.out.c rfl;have c3 : W1.cell? ⟨p, 3, none⟩ = some (.int .i64 R.bf) := HR1.out.c rfl;have f2 := HR1.out.f 2;have f3 := HR1.out.f 3;refine Op1 14 ?_;go_simp;obtain ⟨V2, hV2⟩ : ∃ V2, V2 = ((W1.setCell ⟨p, 2, none⟩ (.int .i64 (R.bt + 1))).setCell ⟨p, 3, none⟩ (.int .i64 R.me)).drew := ⟨_, rfl⟩
  rw [← hV2];obtain ⟨a2, b2⟩ := HR1.out.setBallot (R.bt + 1) R.me;have hb2 : Below ((W1.setCell ⟨p, 2, none⟩ (iz (R.bt + 1))).setCell ⟨p, 3, none⟩ (iz R.me)).heap.size ((W1.setCell ⟨p, 2, none⟩ (iz (R.bt + 1))).setCell ⟨p, 3, none⟩ (iz R.me)) V2 := by rw [hV2]; exact (Below.refl _ _).drew
  obtain ⟨R2, hR2⟩ : ∃ R2 : PRaft, R2 = { R with ticks := 0, bt := R.bt + 1, bf := R.me } := ⟨_, rfl⟩
  have HRV := Hh (show RfAt V2 p R2 M by rw [hR2]; exact a2.below hb2);have HTV := Hh (HT1.out.trans (b2.trans (.ofBelow hb2)));have hsV : W1.heap.size ≤ V2.heap.size := by rw [hV2]; simp
  have HBXV := Hh (show V2.cell? ⟨w.heap.size, 0, none⟩ = some (.pointer (some ⟨p, 0, none⟩)) from ((b2.trans (.ofBelow hb2)).cell hs1 HNO.out).trans HBX1.out);have HF2 := Hh (show R2.me = R.me ∧ R2.n = R.n ∧ R2.bt = R.bt + 1 ∧ R2.bf = R.me ∧ R2.news = R.news ∧ R2.out = R.out ∧ R2.line = R.line by rw [hR2]; exact ⟨rfl, rfl, rfl, rfl, rfl, rfl, rfl⟩);have HR2d := Hh hR2;have hS1 : StS w.heap.size p R.me V2 := ⟨HBXV.out, by rw [← HF2.out.1]; exact HRV.out.c rfl⟩
  refine ⟨hS1, OpE ?_⟩;obtain ⟨bx, -⟩ := hS1;clear hV2 a2 b2 hb2 hR2 c2 c3 f2 f3 hdr;go_wp2_with fail;refine (raftNoteBallot p R2 M (by rw [HF2.out.2.2.1]; omega) (by rw [HF2.out.2.2.1]; omega) (by rw [HF2.out.2.2.2.1]; omega) (by rw [HF2.out.2.2.2.1]; omega) (by rw [HF2.out.2.2.2.2.1]; omega) _ HRV.out).mono ?_;rintro e V3 ⟨rfl, M3, hr3, ht3⟩;obtain ⟨R3, hR3⟩ : ∃ R3 : PRaft, R3 = R2.noteBallot := ⟨_, rfl⟩
  rw [← hR3] at hr3;have HR3d := Hh hR3;have HR3 := Hh hr3;have HT3 := Hh (HTV.out.trans ht3);have HNO3 := Hh (show ¬ M3.own p w.heap.size from fun h9 => by
   rcases ht3.fresh _ h9 with h8 | h8
   ·exact HNO.out h8
   ·omega)
  have hs3 := ht3.size;have HBX3 := Hh (show V3.cell? ⟨w.heap.size, 0, none⟩ = some (.pointer (some ⟨p, 0, none⟩)) from (ht3.cell (by omega) HNO.out).trans HBXV.out);have HF3 := Hh (show R3.me = R.me ∧ R3.n = R.n ∧ R3.line = R.line ∧ R3.out = R.out ∧ R3.news.length ≤ 999980001 by
   rw [hR3];refine ⟨HF2.out.1, HF2.out.2.1, HF2.out.2.2.2.2.2.2, HF2.out.2.2.2.2.2.1, ?_⟩;show (R2.news ++ [_]).length ≤ _;rw [HF2.out.2.2.2.2.1]
   simp
   omega)
  clear hr3 ht3 hR3 bx;go_wp2_with fail;refine OpR (S := StS w.heap.size p R.me) ?_;obtain ⟨V4, hV4⟩ : ∃ V4, V4 = V3.drew := ⟨_, rfl⟩
  have hdr : Below V3.heap.size V3 V4 := by rw [hV4]; exact (Below.refl _ _).drew
  (refine (show wpAnyH _ _ _ _ _ _ _ _ V3.drew from ?_))
  rw [← hV4];clear hV4;have HR4 := Hh (HR3.out.below hdr);have hS0 : StS w.heap.size p R.me V4 := ⟨(hdr.cell (p := ⟨w.heap.size, 0, none⟩) (show w.heap.size < _ by omega)).trans HBX3.out, by rw [← HF3.out.1]; exact HR4.out.c rfl⟩
  refine hT 0 29 hS0 ?_;refine hT 1 30 hS0 ?_;refine hT 2 31 hS0 ?_;refine hT 3 32 hS0 ?_;obtain ⟨a5, b5⟩ := HR4.out.setRole 1;have c6 : V4.cell? ⟨p, 6, none⟩ = some (iz R3.role) := HR4.out.c rfl;have f6 := HR4.out.f 6;refine Op1 4 ?_;refine wp_store_cell 3 (.tmp 32) _ rfl p 6 (iz 1) _ rfl rfl rfl (by kernel_rfl) c6 f6 ?_;obtain ⟨V5, hV5⟩ : ∃ V5, V5 = V4.setCell ⟨p, 6, none⟩ (iz 1) := ⟨_, rfl⟩
  rw [← hV5] at a5 b5 ⊢;have HR5 := Hh a5;have HT5 := Hh (HT3.out.trans ((RTouch.ofBelow hdr).trans b5));have HBX5 := Hh (show V5.cell? ⟨w.heap.size, 0, none⟩ = some (.pointer (some ⟨p, 0, none⟩)) from (b5.cell (Nat.lt_of_lt_of_le (by omega) hdr.size) HNO3.out).trans hS0.bx);have hs5 : V3.heap.size ≤ V5.heap.size := by rw [hV5]; simpa using hdr.size
  have hS5 : StS w.heap.size p R.me V5 := ⟨HBX5.out, by rw [← HF3.out.1]; exact HR5.out.c rfl⟩
  refine ⟨hS5, ?_⟩;clear hS0 c6 f6 hV5 a5 b5 hdr;refine hT 5 33 hS5 ?_;refine hT 6 34 hS5 ?_;obtain ⟨a6, b6⟩ := HR5.out.setLead (-1);have c7 : V5.cell? ⟨p, 7, none⟩ = some (iz R3.lead) := HR5.out.c rfl;have f7 := HR5.out.f 7;refine Op1 7 ?_;refine wp_store_cell 3 (.tmp 34) _ rfl p 7 (iz (-1)) _ rfl rfl rfl (by kernel_rfl) c7 f7 ?_;obtain ⟨V6, hV6⟩ : ∃ V6, V6 = V5.setCell ⟨p, 7, none⟩ (iz (-1)) := ⟨_, rfl⟩
  rw [← hV6] at a6 b6 ⊢;have HR6 := Hh a6;have HT6 := Hh (HT5.out.trans b6);have hbx6 : V6.cell? ⟨w.heap.size, 0, none⟩ = some (.pointer (some ⟨p, 0, none⟩)) := (b6.cell (by omega) HNO3.out).trans HBX5.out;have hs6 : V5.heap.size ≤ V6.heap.size := by rw [hV6]; simp
  have hS6 : StS w.heap.size p R.me V6 := ⟨hbx6, by rw [← HF3.out.1]; exact HR6.out.c rfl⟩
  refine ⟨hS6, OpE ?_⟩;clear hS5 hS6 c7 f7 hV6 a6 b6;obtain ⟨a7, b7⟩ := HR6.out.clearVotes;obtain ⟨V7, hV7⟩ : ∃ V7, V7 = ((((((V6.setCell ⟨p, 11, none⟩ (iz 0)).setCell ⟨p, 12, none⟩ (iz 0)).setCell ⟨p, 13, none⟩ (iz 0)).setCell ⟨p, 14, none⟩ (iz 0)).setCell ⟨p, 15, none⟩ (iz 0)).setCell ⟨p, 16, none⟩ (iz 0)).setCell ⟨p, 17, none⟩ (iz 0) := ⟨_, rfl⟩
  rw [← hV7] at a7 b7;obtain ⟨R7, hR7⟩ : ∃ R7 : PRaft, R7 = { R3 with role := 1, lead := -1, votes := zeros7 } := ⟨_, rfl⟩
  have HR7 := Hh (show RfAt V7 p R7 M3 by rw [hR7]; exact a7);have HT7 := Hh (HT6.out.trans b7);have HS0 := Hh (show R7 = R.stand0 by rw [hR7, HR3d.out, HR2d.out]; rfl);have HF7 := Hh (show R7.me = R.me ∧ R7.n = R.n ∧ R7.line = R.line ∧ R7.out = R.out ∧ R7.news.length ≤ 999980001 ∧ R7.votes = zeros7 by rw [hR7]; exact ⟨HF3.out.1, HF3.out.2.1, HF3.out.2.2.1, HF3.out.2.2.2.1, HF3.out.2.2.2.2, rfl⟩);have hs7 : V6.heap.size ≤ V7.heap.size := by rw [hV7]; simp
  have HBX7 := Hh (show V7.cell? ⟨w.heap.size, 0, none⟩ = some (.pointer (some ⟨p, 0, none⟩)) from (b7.cell (by omega) HNO3.out).trans hbx6);have HV7 := Hh hV7;have c4 : V6.cell? ⟨p, 4, none⟩ = some (.pointer (some ⟨M3.lb, 0, none⟩)) := HR6.out.c rfl;obtain ⟨g0, g1, g2, g3, g4, g5, g6⟩ := HR6.out.votesCells;have f11 := HR6.out.f 11;have f12 := HR6.out.f 12;have f13 := HR6.out.f 13;have f14 := HR6.out.f 14;have f15 := HR6.out.f 15;have f16 := HR6.out.f 16;have f17 := HR6.out.f 17;clear a7 b7 hV7 hR7;go_wp2_with fail;rw [← HV7.out];clear c4 g0 g1 g2 g3 g4 g5 g6 f11 f12 f13 f14 f15 f16 f17 hbx6;have hln7 := HR7.out.ln;rw [HF7.out.2.2.1] at hln7;refine (lineLast 0 M3.lb R.line HG.out M3.la M3.lc M3.ms _ hln7).mono ?_;rintro e V8 ⟨rfl, m8, hm8⟩;have hb8 : Below V7.heap.size V7 V8 := by rw [hm8]; exact below_drewN V7 m8
  have HR8 := Hh (HR7.out.below hb8);have HT8 := Hh (HT7.out.trans (.ofBelow hb8));have hs8 := hb8.size;obtain ⟨L, hL⟩ : ∃ L, R.line.last = L := ⟨_, rfl⟩
  obtain ⟨T, hT⟩ : ∃ T, (tmIs R.line R.line.last).1 = T := ⟨_, rfl⟩
  have HLT := Hh (show R.line.last = L ∧ (tmIs R.line R.line.last).1 = T from ⟨hL, hT⟩);rw [hT, hL];obtain ⟨V9, hV9⟩ : ∃ V9, V9 = (V8.alloc (.cells #[.int .i64 L] 3)).alloc (.cells #[.int .i64 T] 3) := ⟨_, rfl⟩
  have hb9 : Below V8.heap.size V8 V9 := by rw [hV9]; exact ((Below.refl _ _).alloc (Nat.le_refl _) _).alloc (by simp) _
  have hr9a : V9.heap[V8.heap.size]? = some (.cells #[.int .i64 L] 3 (0, 0)) := by
   rw [hV9];exact (((Below.refl _ _).alloc (Nat.le_refl (V8.alloc (.cells #[.int .i64 L] 3)).heap.size) _).block _ (by simp)).trans (heap_alloc_new V8 _)
  have hr9b : V9.heap[V8.heap.size + 1]? = some (.cells #[.int .i64 T] 3 (0, 0)) := by
   rw [hV9];have h9 := heap_alloc_new (V8.alloc (.cells #[.int .i64 L] 3)) (.cells #[.int .i64 T] 3);simpa using h9
  have hs9 : V9.heap.size = V8.heap.size + 2 := by rw [hV9]; simp
  have HR9 := Hh (HR8.out.below hb9);have HT9 := Hh (HT8.out.trans (.ofBelow hb9));have HN2 := Hh (HR8.out.notNew (Nat.le_refl V8.heap.size));have HN3 := Hh (HR8.out.notNew (Nat.le_succ V8.heap.size));have HC2 := Hh (cell_of_row _ _ 0 _ _ _ hr9a);have HC3 := Hh (cell_of_row _ _ 0 _ _ _ hr9b);have HBX8 := Hh (show V8.cell? ⟨w.heap.size, 0, none⟩ = some (.pointer (some ⟨p, 0, none⟩)) from (hb8.cell (p := ⟨w.heap.size, 0, none⟩) (show w.heap.size < _ by omega)).trans HBX7.out);have HBX9 := Hh (show V9.cell? ⟨w.heap.size, 0, none⟩ = some (.pointer (some ⟨p, 0, none⟩)) from (hb9.cell (p := ⟨w.heap.size, 0, none⟩) (show w.heap.size < _ by omega)).trans HBX8.out);have HV9 := Hh hV9;have HS9 := Hh hs9;have bx8 := HBX8.out;have hlt8 : w.heap.size < V8.heap.size := by omega
  have hpl8 : p < V8.heap.size := by omega
  obtain ⟨me, hme⟩ : ∃ me : Nat, R.me = me := ⟨R.me.toNat, by omega⟩
  obtain ⟨n, hn⟩ : ∃ n : Nat, R.n = n := ⟨R.n.toNat, by omega⟩
  have HMN := Hh (show R.me = me ∧ R.n = n from ⟨hme, hn⟩);have hme7 : me < 7 := by omega
  have hnn7 : n ≤ 7 := by omega
  have HOTH := Hh (raftOthers p R7 M3 71 (enterOf Tryz.func71 (by kernel_rfl) rfl) #[] #[.pointer (some ⟨w.heap.size, 0, none⟩), .pointer (some ⟨V8.heap.size, 0, none⟩), .pointer (some ⟨V8.heap.size + 1, 0, none⟩)] (fun S who => S.post who ⟨1, 0, L, T, 0, false, [], []⟩)
   (fun i S => ∃ o, S = { R7 with out := o } ∧ o.length ≤ R7.out.length + i) n (by rw [HF7.out.2.1, hn]) hnn7 V9 HR9.out ⟨R7.out, rfl, by omega⟩
   (by
    rintro i S hi ⟨o, rfl, hl⟩;refine ⟨rfl, ?_⟩;split
    ·exact ⟨o, rfl, by omega⟩
    ·exact ⟨_, rfl, by simp; omega⟩)
   (by rintro S ⟨o, rfl, -⟩; rfl)
   (by
    rintro i hi - S N W hr ht ⟨o, rfl, hl⟩;refine raftStand1 p { R7 with out := o } N w.heap.size V8.heap.size (V8.heap.size + 1) i L T (by simp only; rw [HF7.out.2.2.2.1] at hl; omega) W hr ?_ ?_ ?_
    ·exact (ht.cell (by omega) HNO3.out).trans HBX9.out
    ·exact (ht.cell (by omega) HN2.out).trans HC2.out
    ·exact (ht.cell (by omega) HN3.out).trans HC3.out))
  clear hm8 hb8 hL hT hV9 hb9 hr9a hr9b hs9 hln7 hme hn;go_wp2_with fail;rw [← HV9.out];refine HOTH.out.mono ?_;rintro e V10 ⟨rfl, M10, hr10, ht10, o10, ho10, hol⟩;obtain ⟨R10, hR10⟩ : ∃ R10, R10 = R7.others fun S who => S.post who ⟨1, 0, L, T, 0, false, [], []⟩ := ⟨_, rfl⟩
  rw [← hR10] at hr10 ho10;have HR10 := Hh hr10;have HT10 := Hh (HT9.out.trans ht10);have HF10 := Hh (show R10.me = R.me ∧ R10.n = R.n ∧ R10.line = R.line ∧ R10.out.length ≤ 999999000 ∧ R10.news.length ≤ 999980001 ∧ R10.votes = zeros7 by
   rw [ho10];refine ⟨HF7.out.1, HF7.out.2.1, HF7.out.2.2.1, ?_, HF7.out.2.2.2.2.1, HF7.out.2.2.2.2.2⟩;show o10.length ≤ _;rw [HF7.out.2.2.2.1] at hol;omega)
  have HFIN := Hh (show R.stand = R10.count me by rw [HST.out, ← HS0.out, HLT.out.1, ← HLT.out.1, HLT.out.2, HLT.out.1, ← hR10, HMN.out.1]);have HNO10 := Hh (show ¬ M10.own p w.heap.size from fun h9 => by
   rcases ht10.fresh _ h9 with h8 | h8
   ·exact HNO3.out h8
   ·have := HS9.out; omega)
  have hs10 := ht10.size;have HBX10 := Hh (show V10.cell? ⟨w.heap.size, 0, none⟩ = some (.pointer (some ⟨p, 0, none⟩)) from (ht10.cell (by have := HS9.out; omega) HNO3.out).trans HBX9.out);have hlt10 : w.heap.size < V10.heap.size := by have := HS9.out; omega
  clear hr10 ht10 hR10 ho10 hol bx8;go_wp2_with fail;refine OpR (S := StS w.heap.size p me) ?_;have hdr : Below V10.heap.size V10 V10.drew := (Below.refl _ _).drew;have HR11 := Hh (HR10.out.below hdr);have hS0 : StS w.heap.size p me V10.drew := ⟨(hdr.cell (p := ⟨w.heap.size, 0, none⟩) hlt10).trans HBX10.out, by rw [← HMN.out.1, ← HF10.out.1]; exact HR11.out.c rfl⟩
  refine hT 0 50 hS0 ?_;refine hT 1 51 hS0 ?_;refine hT 2 52 hS0 ?_;refine hT 3 53 hS0 ?_;refine hT 4 54 hS0 ?_;have hbx11 := hS0.bx;clear hS0;refine Op1 5 ?_;go_simp;refine (raftCount p R10 M10 me hme7 (by rw [HF10.out.2.1]; exact hn1) (by rw [HF10.out.2.1]; exact hn7) (by rw [HF10.out.1]; exact hm0) (by rw [HF10.out.1, HF10.out.2.1]; exact hmn) (by rw [HF10.out.2.2.1]; exact HG.out) (by rw [HF10.out.2.2.2.2.2]; simp [zeros7]) (by have := HF10.out.2.2.2.2.1; omega) HF10.out.2.2.2.1 _ HR11.out).mono ?_;rintro e V12 ⟨rfl, M12, hr12, ht12⟩;have hS12 : StS w.heap.size p me V12 := by
   refine ⟨(ht12.cell (Nat.lt_of_lt_of_le hlt10 hdr.size) HNO10.out).trans hbx11, ?_⟩;have h9 : V12.cell? ⟨p, 0, none⟩ = some (.int .i64 (R10.count me).me) := hr12.c rfl;rw [(count_eq _ _).1, HF10.out.1, HMN.out.1] at h9;exact h9
  have HR12 := Hh (show RfAt V12 p R.stand M12 by rw [HFIN.out]; exact hr12);have HT12 := Hh (HT10.out.trans ((RTouch.ofBelow hdr).trans ht12));refine ⟨hS12, OpE ?_⟩;clear hS12 hr12 ht12 hbx11 hdr;go_wp2;go_end0;exact ⟨rfl, M12, HR12.out, HT12.out⟩
end Go.Proofs.YtogcnfhmcpkdcaaGreat
namespace Go.Proofs.YtogcnfhmcpkdcaaGreat
open Go.RowKit
set_option linter.unusedVariables false
set_option linter.unusedSimpArgs false
structure TickS (p : Nat) (me role ticks : Int) (W : World) : Prop where
 c0 : W.cell? ⟨p, 0, none⟩ = some (.int .i64 me)
 c6 : W.cell? ⟨p, 6, none⟩ = some (.int .i64 role)
 c10 : W.cell? ⟨p, 10, none⟩ = some (.int .i64 ticks)
theorem RfAt.tickS {w : World} {p : Nat} {R : PRaft} {M : RMem} (h : RfAt w p R M) : TickS p R.me R.role R.ticks w := ⟨h.c rfl, h.c rfl, h.c rfl⟩
set_option maxRecDepth 100000 in
set_option maxHeartbeats 2000000 in
theorem raftTick (p : Nat) (R : PRaft) (M : RMem) (hn1 : 1 ≤ R.n) (hn7 : R.n ≤ 7) (hm0 : 0 ≤ R.me) (hmn : R.me < R.n) (hb0 : 0 ≤ R.bt) (hb1 : R.bt ≤ 1099511627776) (hg : R.line.Good) (hx : ∀ x ∈ R.nxt, 0 ≤ x ∧ x ≤ 1099511627777) (hk0 : 0 ≤ R.ticks) (hk1 : R.ticks ≤ 1000) (hnw : R.news.length ≤ 999980000) (ho : R.out.length ≤ 999998000) (w : World) (h : RfAt w p R M) :
  Calls Tryz.prog 11 #[.pointer (some ⟨p, 0, none⟩)] w fun e w' => e = .returned (.tuple #[]) ∧ ∃ M', RfAt w' p R.tick M' ∧ RTouch p M M' w w' := by
 obtain ⟨K, hK⟩ : ∃ K, K = R.ticks + 1 := ⟨_, rfl⟩
 have wk : IntKind.i64.wrap (R.ticks + 1) = K := by rw [hK]; exact IntWalk.i64_in _ (by omega)
 have c10 : w.cell? ⟨p, 10, none⟩ = some (.int .i64 R.ticks) := h.c rfl;have c6 : w.cell? ⟨p, 6, none⟩ = some (.int .i64 R.role) := h.c rfl;have f10 := h.f 10;obtain ⟨a1, b1⟩ := h.setTicks K;obtain ⟨S, hS⟩ : ∃ S : PRaft, S = { R with ticks := K } := ⟨_, rfl⟩
 rw [← hS] at a1;have HA1 := Hh a1;have HB1 := Hh b1;have HG := Hh hg;have HX := Hh hx;have HTK := Hh (show R.tick = if R.role = 2 ∧ 4 ≤ K then ({ R with ticks := 0 } : PRaft).others PRaft.send else if R.role ≠ 2 ∧ 20 + 2 * R.me ≤ K then S.stand else S by
  rw [hS, hK]; rfl)
 have HSF := Hh (show S.me = R.me ∧ S.n = R.n ∧ S.bt = R.bt ∧ S.line = R.line ∧ S.news = R.news ∧ S.out = R.out ∧ S.role = R.role ∧ S.ticks = K by rw [hS]; exact ⟨rfl, rfl, rfl, rfl, rfl, rfl, rfl, rfl⟩);have HSE := Hh hS;clear a1 b1 hS h hg hx hK;have HS0 := Hh (show ({ S with ticks := 0 } : PRaft) = { R with ticks := 0 } by rw [HSE.out]);by_cases h2 : R.role = 2
 ·have t2 : (R.role == 2) = true := by simpa using h2
  have t2n : (R.role != 2) = false := by simp [h2]
  by_cases h4 : 4 ≤ K
  ·have t4 : decide (4 ≤ K) = true := by simpa using h4
   have HF := Hh (HTK.out.trans (if_pos ⟨h2, h4⟩));obtain ⟨V, hV⟩ : ∃ V, V = (w.setCell ⟨p, 10, none⟩ (iz K)).setCell ⟨p, 10, none⟩ (iz 0) := ⟨_, rfl⟩
   obtain ⟨a3, b3⟩ := HA1.out.setTicks 0;rw [← hV] at a3 b3;rw [HS0.out] at a3;have HA3 := Hh a3;have HT3 := Hh (HB1.out.trans b3);have HV := Hh hV;clear a3 b3 hV h2 h4;go_enter Tryz.func11, Tryz.ntmps11
   go_wp2_with fail;rw [← HV.out];refine (raftBeat p { R with ticks := 0 } M (by show 0 ≤ R.n; omega) hn7 HG.out HX.out (by show R.out.length ≤ _; omega) _ HA3.out).mono ?_;rintro e w2 ⟨rfl, M', hr2, ht2⟩;have HR2 := Hh hr2;have HT2 := Hh (HT3.out.trans ht2);clear hr2 ht2;go_wp2;go_end0;rw [HF.out];exact ⟨rfl, M', HR2.out, HT2.out⟩
  ·have t4 : decide (4 ≤ K) = false := by simpa using h4
   have HF := Hh (show R.tick = S by rw [HTK.out, if_neg (fun h9 => h4 h9.2), if_neg (fun h9 => h9.1 h2)]);obtain ⟨V, hV⟩ : ∃ V, V = w.setCell ⟨p, 10, none⟩ (iz K) := ⟨_, rfl⟩
   rw [← hV] at HA1 HB1;have HV := Hh hV;clear h2 h4 hV;go_enter Tryz.func11, Tryz.ntmps11
   go_wp2_with fail;rw [← HV.out];refine OpR (S := TickS p R.me R.role K) ?_;have hdr : Below V.heap.size V V.drew := (Below.refl _ _).drew;have HR2 := Hh (HA1.out.below hdr);have hS0 : TickS p R.me R.role K V.drew := by have h9 := HR2.out.tickS; rw [HSF.out.1, HSF.out.2.2.2.2.2.2.1, HSF.out.2.2.2.2.2.2.2] at h9; exact h9
   clear c10 c6 f10;refine hT 0 30 hS0 ?_;refine hT 1 31 hS0 ?_;refine hT 2 32 hS0 ?_;refine hT 3 33 hS0 ?_;refine hT 4 34 hS0 ?_;refine hT 5 35 hS0 ?_;refine hN 6 36 hS0 ?_;refine hN 10 40 hS0 ?_;refine hN 7 37 hS0 ?_;refine hN 11 41 hS0 ?_;refine hN 8 38 hS0 ?_;refine hN 12 42 hS0 ?_;refine hN 9 39 hS0 ?_;refine hN 13 43 hS0 ?_;refine hN 14 44 hS0 ?_;refine hN 15 45 hS0 ?_;refine hN 16 46 hS0 ?_;refine heldTake 17 47 (v := .bool false) rfl rfl (by kernel_rfl) (by kernel_rfl) (by kernel_rfl) (fun _ _ _ h => h) hS0 (.inl ⟨by rfl, by intro w' hS; clear hS; go_simp; (try (all_goals rfl))⟩) ?_;simp only [List.set_cons_zero, List.set_cons_succ];refine hT 18 29 hS0 ?_;refine OpE ?_;have HT2 := Hh (HB1.out.trans (.ofBelow hdr));clear hS0 hdr;go_wp2;go_end0;rw [HF.out];exact ⟨rfl, M, HR2.out, HT2.out⟩
 ·have t2 : (R.role == 2) = false := by simpa using h2
  have t2n : (R.role != 2) = true := by simpa using h2
  obtain ⟨V, hV⟩ : ∃ V, V = w.setCell ⟨p, 10, none⟩ (iz K) := ⟨_, rfl⟩
  rw [← hV] at HA1 HB1;have HV := Hh hV;clear hV;have wm : IntKind.i64.wrap (2 * R.me) = 2 * R.me := IntWalk.i64_in _ (by omega);have wa : IntKind.i64.wrap (20 + 2 * R.me) = 20 + 2 * R.me := IntWalk.i64_in _ (by omega);by_cases h5 : 20 + 2 * R.me ≤ K
  ·have t5 : decide (20 + 2 * R.me ≤ K) = true := by simpa using h5
   have HF := Hh (show R.tick = S.stand by rw [HTK.out, if_neg (fun h9 => h2 h9.1), if_pos ⟨h2, h5⟩]);clear h2 h5;go_enter Tryz.func11, Tryz.ntmps11
   go_wp2_with fail;rw [← HV.out];clear c10 c6 f10;refine OpR (S := TickS p R.me R.role K) ?_;have hdr : Below V.heap.size V V.drew := (Below.refl _ _).drew;have HR2 := Hh (HA1.out.below hdr);have hS0 : TickS p R.me R.role K V.drew := by have h9 := HR2.out.tickS; rw [HSF.out.1, HSF.out.2.2.2.2.2.2.1, HSF.out.2.2.2.2.2.2.2] at h9; exact h9
   refine hT 0 30 hS0 ?_;refine hT 1 31 hS0 ?_;refine hT 2 32 hS0 ?_;refine hT 3 33 hS0 ?_;refine hT 4 34 hS0 ?_;refine hT 5 35 hS0 ?_;refine hT 6 36 hS0 ?_;refine hT 10 40 hS0 ?_;refine hT 7 37 hS0 ?_;refine hT 11 41 hS0 ?_;refine hT 8 38 hS0 ?_;refine hT 12 42 hS0 ?_;refine hT 9 39 hS0 ?_;refine hT 13 43 hS0 ?_;refine heldTake 14 44 (v := .int .i64 (2 * R.me)) rfl rfl (by kernel_rfl) (by kernel_rfl) (by kernel_rfl) (fun _ _ _ h => h) hS0 (.inl ⟨by rfl, by intro w' hS; clear hS; go_simp; (try (all_goals rfl))⟩) ?_;simp only [List.set_cons_zero, List.set_cons_succ];refine heldTake 15 45 (v := .int .i64 (20 + 2 * R.me)) rfl rfl (by kernel_rfl) (by kernel_rfl) (by kernel_rfl) (fun _ _ _ h => h) hS0 (.inl ⟨by rfl, by intro w' hS; clear hS; go_simp; (try (all_goals rfl))⟩) ?_;simp only [List.set_cons_zero, List.set_cons_succ];refine heldTake 16 46 (v := .bool true) rfl rfl (by kernel_rfl) (by kernel_rfl) (by kernel_rfl) (fun _ _ _ h => h) hS0 (.inl ⟨by rfl, by intro w' hS; clear hS; go_simp; (try (all_goals rfl))⟩) ?_;simp only [List.set_cons_zero, List.set_cons_succ];refine heldTake 17 47 (v := .bool true) rfl rfl (by kernel_rfl) (by kernel_rfl) (by kernel_rfl) (fun _ _ _ h => h) hS0 (.inl ⟨by rfl, by intro w' hS; clear hS; go_simp; (try (all_goals rfl))⟩) ?_;simp only [List.set_cons_zero, List.set_cons_succ];refine hT 18 29 hS0 ?_;refine OpE ?_;have HT2 := Hh (HB1.out.trans (.ofBelow hdr));clear hS0 hdr;go_wp2_with fail;refine (raftStand p S M (by rw [HSF.out.2.1]; exact hn1) (by rw [HSF.out.2.1]; exact hn7) (by rw [HSF.out.1]; exact hm0) (by rw [HSF.out.1, HSF.out.2.1]; exact hmn) (by rw [HSF.out.2.2.1]; exact hb0) (by rw [HSF.out.2.2.1]; exact hb1) (by rw [HSF.out.2.2.2.1]; exact HG.out) (by rw [HSF.out.2.2.2.2.1]; exact hnw) (by rw [HSF.out.2.2.2.2.2.1]; exact ho) _ HR2.out).mono ?_;rintro e w3 ⟨rfl, M', hr3, ht3⟩;have HR3 := Hh hr3;have HT3 := Hh (HT2.out.trans ht3);clear hr3 ht3;go_wp2;go_end0;rw [HF.out];exact ⟨rfl, M', HR3.out, HT3.out⟩
  ·have t5 : decide (20 + 2 * R.me ≤ K) = false := by simpa using h5
   have HF := Hh (show R.tick = S by rw [HTK.out, if_neg (fun h9 => h2 h9.1), if_neg (fun h9 => h5 h9.2)]);clear h2 h5;go_enter Tryz.func11, Tryz.ntmps11
   go_wp2_with fail;rw [← HV.out];clear c10 c6 f10;refine OpR (S := TickS p R.me R.role K) ?_;have hdr : Below V.heap.size V V.drew := (Below.refl _ _).drew;have HR2 := Hh (HA1.out.below hdr);have hS0 : TickS p R.me R.role K V.drew := by have h9 := HR2.out.tickS; rw [HSF.out.1, HSF.out.2.2.2.2.2.2.1, HSF.out.2.2.2.2.2.2.2] at h9; exact h9
   refine hT 0 30 hS0 ?_;refine hT 1 31 hS0 ?_;refine hT 2 32 hS0 ?_;refine hT 3 33 hS0 ?_;refine hT 4 34 hS0 ?_;refine hT 5 35 hS0 ?_;refine hT 6 36 hS0 ?_;refine hT 10 40 hS0 ?_;refine hT 7 37 hS0 ?_;refine hT 11 41 hS0 ?_;refine hT 8 38 hS0 ?_;refine hT 12 42 hS0 ?_;refine hT 9 39 hS0 ?_;refine hT 13 43 hS0 ?_;refine heldTake 14 44 (v := .int .i64 (2 * R.me)) rfl rfl (by kernel_rfl) (by kernel_rfl) (by kernel_rfl) (fun _ _ _ h => h) hS0 (.inl ⟨by rfl, by intro w' hS; clear hS; go_simp; (try (all_goals rfl))⟩) ?_;simp only [List.set_cons_zero, List.set_cons_succ];refine heldTake 15 45 (v := .int .i64 (20 + 2 * R.me)) rfl rfl (by kernel_rfl) (by kernel_rfl) (by kernel_rfl) (fun _ _ _ h => h) hS0 (.inl ⟨by rfl, by intro w' hS; clear hS; go_simp; (try (all_goals rfl))⟩) ?_;simp only [List.set_cons_zero, List.set_cons_succ];refine heldTake 16 46 (v := .bool false) rfl rfl (by kernel_rfl) (by kernel_rfl) (by kernel_rfl) (fun _ _ _ h => h) hS0 (.inl ⟨by rfl, by intro w' hS; clear hS; go_simp; (try (all_goals rfl))⟩) ?_;simp only [List.set_cons_zero, List.set_cons_succ];refine heldTake 17 47 (v := .bool false) rfl rfl (by kernel_rfl) (by kernel_rfl) (by kernel_rfl) (fun _ _ _ h => h) hS0 (.inl ⟨by rfl, by intro w' hS; clear hS; go_simp; (try (all_goals rfl))⟩) ?_;simp only [List.set_cons_zero, List.set_cons_succ];refine hT 18 29 hS0 ?_;refine OpE ?_;have HT2 := Hh (HB1.out.trans (.ofBelow hdr));clear hS0 hdr;go_wp2;go_end0;rw [HF.out];exact ⟨rfl, M, HR2.out, HT2.out⟩
end Go.Proofs.YtogcnfhmcpkdcaaGreat
namespace Go.Proofs.YtogcnfhmcpkdcaaGreat
open Go.RowKit
set_option linter.unusedVariables false
set_option linter.unusedSimpArgs false
structure NextS (p lb : Nat) (ap cm : Int) (W : World) : Prop where
 c4 : W.cell? ⟨p, 4, none⟩ = some (.pointer (some ⟨lb, 0, none⟩))
 c9 : W.cell? ⟨p, 9, none⟩ = some (.int .i64 ap)
 c8 : W.cell? ⟨p, 8, none⟩ = some (.int .i64 cm)
theorem RfAt.nextS {w : World} {p : Nat} {R : PRaft} {M : RMem} (h : RfAt w p R M) : NextS p M.lb R.applied R.commit w := ⟨h.c rfl, h.c rfl, h.c rfl⟩
theorem RfAt.setApplied {w : World} {p : Nat} {R : PRaft} {M : RMem} (h : RfAt w p R M) (x : Int) : RfAt (w.setCell ⟨p, 9, none⟩ (iz x)) p { R with applied := x } M ∧ RTouch p M M w (w.setCell ⟨p, 9, none⟩ (iz x)) :=
 h.set 9 (iz x) (rcells_setHead (by omega) rfl rfl rfl rfl rfl) (h.sv.cp rfl rfl rfl) rfl rfl rfl rfl
def NextTo (p : Nat) (R : PRaft) (M : RMem) (w : World) (e : Ending) (w' : World) : Prop :=
 match R.next.2 with
 | none => e = .returned (.tuple #[.int .i64 0, .agg #[.int .i64 0, .slice none 0 0], .bool false]) ∧ ∃ M', RfAt w' p R.next.1 M' ∧ RTouch p M M' w w'
 | some (i, it) => ∃ a c, e = .returned (.tuple #[.int .i64 i, .agg #[.int .i64 it.1, .slice a it.2.length c], .bool true]) ∧ ByAt w' a c it.2 ∧ ∃ M', RfAt w' p R.next.1 M' ∧ RTouch p M M' w w'
theorem results_tmp_row_tmp {P : Program} {fn : Func} {s p u : Tmp} {ty : TypeId} (h : fn.results = #[.tmp s, .cell p ty, .tmp u]) (tmps : Array Value) (w : World) (g : Nat) (t : TypeId) (cs : Array Value) (fr : Nat × Nat) (d : TypeDesc)
  (hp : tmps.getD p undef = .pointer (some ⟨g, 0, none⟩)) (hg : w.heap[g]? = some (.cells cs t fr)) (hu : P.underlying ty = some d) (hd : (match d with | .struct _ | .array _ _ => true | _ => false) = true) (hi : (P.info? ty).map (·.size) = some cs.size) :
  (results fn tmps).run P w = .ok (.tuple #[tmps.getD s undef, .agg cs, tmps.getD u undef]) w := by
 have hp' : tmps[p]?.getD undef = .pointer (some ⟨g, 0, none⟩) := by simpa using hp
 simp [results, h, hp', asAddr, run_loadVar_row w g t ty cs fr d hg hu hd hi]
structure NextW (p : Nat) (R : PRaft) (M : RMem) (B : Nat) (W : World) (it : PItem) (U : World) (n : Nat) (a : Option Addr) (c : Nat) : Prop where
 rf : RfAt U p R M
 by_ : ByAt U a c it.2
 bx : U.heap[n]? = some (.cells #[.int .i64 0, .slice none 0 0] 40 (0, 0))
 bel : Below B W U
 le : B ≤ n
structure NextB (p n : Nat) (ap : Int) (it : PItem) (a : Option Addr) (c : Nat) (W : World) : Prop where
 c9 : W.cell? ⟨p, 9, none⟩ = some (.int .i64 ap)
 bx : W.heap[n]? = some (.cells #[.int .i64 it.1, .slice a it.2.length c] 40 (0, 0))
theorem RTouch.andBelow {p : Nat} {M M' : RMem} {w U V : World} (h : RTouch p M M' w U) (hb : Below w.heap.size U V) : RTouch p M M' w V :=
 ⟨hb.os.trans h.os, hb.tape.trans h.tape, hb.output.trans h.output, Nat.le_trans h.size hb.size, fun k hk hn => (hb.block k hk).trans (h.block k hk hn), h.fresh⟩
theorem RfAt.far {w w' : World} {p : Nat} {R : PRaft} {M : RMem} (h : RfAt w p R M) {g : Nat} (hg : ¬ M.own p g) {cs : Array Value} {T : TypeId} {fr : Nat × Nat} (hc : w.heap[g]? = some (.cells cs T fr)) (hT : (T : Nat) ≠ 5) (hi : ∀ m ∈ M.ps, m.ia.map (·.block) ≠ some g) (ho : ∀ k, k ≠ g → w'.heap[k]? = w.heap[k]?) (hs : w.heap.size ≤ w'.heap.size) : RfAt w' p R M := by
 have hu : ∀ k cs fr, k < w.heap.size → w.heap[k]? = some (.cells cs 5 fr) → w'.heap[k]? = w.heap[k]? := fun k cs' fr' _ hk => ho k (fun e => by rw [e] at hk; exact hT (kind_eq hc hk))
 refine ⟨h.sv, (ho _ (fun e => hg (.inl e.symm))).trans h.row, ⟨(ho _ (fun e => hg (.inr (.inl e.symm)))).trans h.ln.row, own_mv9 h.ln.own fun k hk => ho k (fun e => hg (.inr (.inr (.inl (by rw [ownBlock_eq] at hk; rw [← e]; exact hk))))), h.ln.its, fun m hm => OwnBs.grown (T := 5) (h.ln.bs m hm) hu hs, Nat.zero_le _⟩, OwnBs.grown (T := 5) h.st hu hs, own_mv9 h.nw fun k hk => ho k (fun e => hg (.inr (.inr (.inr (.inl (by rw [ownBlock_eq] at hk; rw [← e]; exact hk)))))), fun m hm => OwnBs.grown (T := 5) (h.nb m hm) hu hs, h.nq, own_mv9 h.ou fun k hk => ho k (fun e => hg (.inr (.inr (.inr (.inr (by rw [ownBlock_eq] at hk; rw [← e]; exact hk)))))), h.oq, ⟨h.po.q, h.po.c, fun m hm => (h.po.m m hm).kept (fun k hk => ho k (fun e => hi m hm (by rw [← e]; exact hk))) hu hs, h.po.n⟩⟩
set_option maxRecDepth 100000 in
set_option maxHeartbeats 2000000 in
theorem raftNext (p : Nat) (R : PRaft) (M : RMem) (hg : R.line.Good) (h0 : R.line.base ≤ R.applied) (h1 : R.applied ≤ R.commit) (h2 : R.commit ≤ R.line.last) (w : World) (h : RfAt w p R M) :
  Calls Tryz.prog 14 #[.pointer (some ⟨p, 0, none⟩)] w (NextTo p R M w) := by
 obtain ⟨W0, hW0⟩ : ∃ W0, W0 = w.alloc (.cells #[.int .i64 0, .slice none 0 0] 40) := ⟨_, rfl⟩
 have hbW : Below w.heap.size w W0 := by rw [hW0]; exact (Below.refl _ _).alloc (Nat.le_refl _) _
 have HROW0 := Hh (show W0.heap[w.heap.size]? = some (.cells #[.int .i64 0, .slice none 0 0] 40 (0, 0)) by rw [hW0]; exact heap_alloc_new w _);have HR0 := Hh (h.below hbW);have HB0 := Hh hbW;have HW0 := Hh hW0;have HNW := Hh (h.notNew (Nat.le_refl w.heap.size));have hs0 : W0.heap.size = w.heap.size + 1 := by rw [hW0]; simp
 have HG := Hh hg;have HH := Hh h;clear hW0 hbW h hg;by_cases hle : R.commit ≤ R.applied
 ·have t1 : decide (R.commit ≤ R.applied) = true := by simpa using hle
  have HF := Hh (show R.next = (R, none) by unfold PRaft.next; rw [if_pos hle]);clear hle;go_enter Tryz.func14, Tryz.ntmps14
  go_wp2_with fail;rw [← HW0.out];refine OpR (S := NextS p M.lb R.applied R.commit) ?_;have hdr : Below W0.heap.size W0 W0.drew := (Below.refl _ _).drew;have HR1 := Hh (HR0.out.below hdr);have hS0 : NextS p M.lb R.applied R.commit W0.drew := HR1.out.nextS;refine hT 0 7 hS0 ?_;refine hT 4 11 hS0 ?_;refine hT 1 8 hS0 ?_;refine hT 5 12 hS0 ?_;refine hT 2 9 hS0 ?_;refine hT 6 13 hS0 ?_;refine hT 3 10 hS0 ?_;refine hT 7 14 hS0 ?_;refine hT 8 15 hS0 ?_;refine OpE ?_;have HROW1 := Hh (show W0.drew.heap[w.heap.size]? = some (.cells #[.int .i64 0, .slice none 0 0] 40 (0, 0)) from HROW0.out);have HB1 := Hh (HB0.out.trans (hdr.mono HB0.out.size));clear hS0 hdr;go_wp2_with (refine wpList_store_abs rfl 40 (.tmp 3) (.tmp 16) rfl w.heap.size #[.int .i64 0, .slice none 0 0] rfl rfl 40 _ HROW1.out infoItem rfl (by simp [Value.oneCell']) ?_; intro W5 hrow5 hoth5 hb5 hs5);refine bodyPost_ret (results_tmp_row_tmp rfl _ _ w.heap.size 40 _ (0, 0) _ rfl hrow5 Tryz.underlying40 rfl infoItem) rfl ?_;unfold NextTo;rw [HF.out];have hbF := HB1.out.trans hb5;exact ⟨rfl, M, HH.out.below hbF, .ofBelow hbF⟩
 ·have t1 : decide (R.commit ≤ R.applied) = false := by simpa using hle
  have HIN := Hh (show R.line.base < R.applied + 1 ∧ R.applied + 1 ≤ R.line.last by omega);obtain ⟨it, hit⟩ : ∃ it, R.line.l.getD (R.applied + 1 - R.line.base - 1).toNat (0, []) = it := ⟨_, rfl⟩
  have HIT := Hh hit;obtain ⟨Rn, hRn⟩ : ∃ Rn : PRaft, Rn = { R with applied := R.applied + 1 } := ⟨_, rfl⟩
  have HF := Hh (show R.next = (Rn, some (R.applied + 1, it)) by
   unfold PRaft.next;rw [if_neg hle, hRn];unfold PRaft.item;rw [if_pos HIN.out, hit])
  have wA : IntKind.i64.wrap (R.applied + 1) = R.applied + 1 := IntWalk.i64_in _ (by
   have := HG.out.b0; have := HG.out.n2;have hl : R.line.last = R.line.base + (R.line.l.length : Int) := rfl;omega)
  clear hle hit;go_enter Tryz.func14, Tryz.ntmps14
  go_wp2_with fail;rw [← HW0.out];refine OpR (S := NextS p M.lb R.applied R.commit) ?_;obtain ⟨W1, hW1⟩ : ∃ W1, W1 = W0.drew := ⟨_, rfl⟩
  have hdr : Below W0.heap.size W0 W1 := by rw [hW1]; exact (Below.refl _ _).drew
  (refine (show wpAnyH _ _ _ _ _ _ _ _ W0.drew from ?_))
  rw [← hW1];clear hW1;have HR1 := Hh (HR0.out.below hdr);have hS0 : NextS p M.lb R.applied R.commit W1 := HR1.out.nextS;refine hT 0 7 hS0 ?_;refine hT 4 11 hS0 ?_;refine hT 1 8 hS0 ?_;refine hT 5 12 hS0 ?_;refine hT 2 9 hS0 ?_;refine hT 6 13 hS0 ?_;refine hT 3 10 hS0 ?_;refine hT 7 14 hS0 ?_;refine hT 8 15 hS0 ?_;refine OpE ?_;obtain ⟨-, c9, -⟩ := hS0;have f9 := HR1.out.f 9;obtain ⟨a2, b2⟩ := HR1.out.setApplied (R.applied + 1);obtain ⟨W2, hW2⟩ : ∃ W2, W2 = W1.setCell ⟨p, 9, none⟩ (iz (R.applied + 1)) := ⟨_, rfl⟩
  rw [← hW2, ← hRn] at a2;rw [← hW2] at b2;have HR2 := Hh a2;have HT2 := Hh ((RTouch.ofBelow HB0.out).trans ((RTouch.ofBelow hdr).trans b2));have HRN := Hh (show Rn.applied = R.applied + 1 ∧ Rn.line = R.line ∧ Rn.commit = R.commit by rw [hRn]; exact ⟨rfl, rfl, rfl⟩);have hs2 : W0.heap.size ≤ W2.heap.size := by rw [hW2]; simpa using hdr.size
  have HROW2 := Hh (show W2.heap[w.heap.size]? = some (.cells #[.int .i64 0, .slice none 0 0] 40 (0, 0)) from (b2.block _ (by have := hdr.size; omega) HNW.out).trans ((hdr.block _ (by omega)).trans HROW0.out));have HW2 := Hh hW2;clear a2 b2 hW2 hdr hRn;go_wp2_with fail;rw [← HW2.out];clear c9 f9;refine OpR (S := NextS p M.lb (R.applied + 1) R.commit) ?_;have hdr : Below W2.heap.size W2 W2.drew := (Below.refl _ _).drew;have HR3 := Hh (HR2.out.below hdr);have hS0 : NextS p M.lb (R.applied + 1) R.commit W2.drew := by have h9 := HR3.out.nextS; rw [HRN.out.1, HRN.out.2.2] at h9; exact h9
  refine hT 0 25 hS0 ?_;refine hT 4 29 hS0 ?_;refine hT 1 26 hS0 ?_;refine hT 5 30 hS0 ?_;refine hT 2 27 hS0 ?_;refine hT 6 31 hS0 ?_;refine hT 3 28 hS0 ?_;refine hT 7 32 hS0 ?_;have HS0 := Hh hS0;have HDR := Hh hdr;have HLN3 := Hh (show LnAt W2.drew 0 M.lb R.line M.la M.lc M.ms by have h9 := HR3.out.ln; rw [HRN.out.2.1] at h9; exact h9);clear hS0 hdr;obtain ⟨B0, hB0⟩ : ∃ B0, B0 = W2.heap.size := ⟨_, rfl⟩
  have HBZ := Hh hB0;clear hB0;apply wayR (fun U n a c => NextW p Rn M B0 W2 it U n a c);intro hway;refine Op2 8 12 ?_ ?_
  ·go_simp;refine (lineItemO 0 M.lb R.line HG.out M.la M.lc M.ms (R.applied + 1) _ HLN3.out).mono ?_;rintro e V4 h4;unfold ItemToO at h4;rw [if_pos HIN.out] at h4;obtain ⟨a4, c4, rfl, hby, hb4⟩ := h4;rw [HIT.out] at hby ⊢;have hb24 : Below W2.heap.size W2 V4 := HDR.out.trans hb4;have hr4 := HR2.out.below hb24;have hS4 : NextS p M.lb (R.applied + 1) R.commit V4 := by have h9 := hr4.nextS; rw [HRN.out.1, HRN.out.2.2] at h9; exact h9
   have HR4 := Hh hr4;have HB24 := Hh hb24;have HBY := Hh hby;clear hb4 hb24 hr4 hby;refine ⟨hS4, ?_⟩;refine hT 9 24 hS4 ?_;refine heldTake 10 34 (v := .agg #[.int .i64 it.1, .slice a4 it.2.length c4]) rfl rfl (by kernel_rfl) (by kernel_rfl) (by kernel_rfl) (fun _ _ _ h => h) hS4 (.inl ⟨by rfl, by intro w' hS; clear hS; go_simp; (try (all_goals rfl))⟩) ?_;simp only [List.set_cons_zero, List.set_cons_succ];refine heldTake 11 35 (v := .bool true) rfl rfl (by kernel_rfl) (by kernel_rfl) (by kernel_rfl) (fun _ _ _ h => h) hS4 (.inl ⟨by rfl, by intro w' hS; clear hS; go_simp; (try (all_goals rfl))⟩) ?_;simp only [List.set_cons_zero, List.set_cons_succ];have HS4 := Hh hS4;clear hS4;refine Op1 12 ?_;go_simp;obtain ⟨U, hU⟩ : ∃ U, U = V4.alloc (.cells #[.int .i64 0, .slice none 0 0] 40) := ⟨_, rfl⟩
   rw [← hU];have hbU : Below V4.heap.size V4 U := by rw [hU]; exact (Below.refl _ _).alloc (Nat.le_refl _) _
   have hrU := HR4.out.below hbU;have hSU : NextS p M.lb (R.applied + 1) R.commit U := by have h9 := hrU.nextS; rw [HRN.out.1, HRN.out.2.2] at h9; exact h9
   refine ⟨hSU, ?_⟩;have hnw : NextW p Rn M B0 W2 it U V4.heap.size a4 c4 := ⟨hrU, HBY.out.below hbU, by rw [hU]; exact heap_alloc_new V4 _, by rw [HBZ.out]; exact HB24.out.trans (hbU.mono HB24.out.size), by rw [HBZ.out]; exact HB24.out.size⟩
   clear hSU hrU hbU hU;generalize V4.heap.size = n at hnw ⊢;exact hway U n a4 c4 hnw
  ·go_simp;obtain ⟨V3, hV3⟩ : ∃ V3, V3 = (W2.alloc (.cells #[.int .i64 0, .slice none 0 0] 40)).drew := ⟨_, rfl⟩
   rw [← hV3];have hb3 : Below W2.heap.size W2 V3 := by rw [hV3]; exact ((Below.refl _ _).alloc (Nat.le_refl _) _).drew
   have hbx3 : V3.heap[W2.heap.size]? = some (.cells #[.int .i64 0, .slice none 0 0] 40 (0, 0)) := by rw [hV3]; exact heap_alloc_new W2 _
   have hs3 : W2.heap.size < V3.heap.size := (Array.getElem?_eq_some_iff.1 hbx3).1;have hr3 := HR2.out.below hb3;have hS3 : NextS p M.lb (R.applied + 1) R.commit V3 := by have h9 := hr3.nextS; rw [HRN.out.1, HRN.out.2.2] at h9; exact h9
   have hln3 : LnAt V3 0 M.lb R.line M.la M.lc M.ms := by have h9 := hr3.ln; rw [HRN.out.2.1] at h9; exact h9
   have HB3 := Hh hb3;have HBX3 := Hh hbx3;have HLN4 := Hh hln3;have HS3 := Hh hS3;clear hV3 hb3 hbx3 hr3 hS3 hln3;refine ⟨HS3.out, ?_⟩;refine Op1 8 ?_;go_simp;refine (lineItemO 0 M.lb R.line HG.out M.la M.lc M.ms (R.applied + 1) _ HLN4.out).mono ?_;rintro e V4 h4;unfold ItemToO at h4;rw [if_pos HIN.out] at h4;obtain ⟨a4, c4, rfl, hby, hb4⟩ := h4;rw [HIT.out] at hby ⊢;have hb24 : Below W2.heap.size W2 V4 := HB3.out.trans (hb4.mono HB3.out.size);have hr4 := HR2.out.below hb24;have hS4 : NextS p M.lb (R.applied + 1) R.commit V4 := by have h9 := hr4.nextS; rw [HRN.out.1, HRN.out.2.2] at h9; exact h9
   refine ⟨hS4, ?_⟩;have hnw : NextW p Rn M B0 W2 it V4 W2.heap.size a4 c4 := ⟨hr4, hby, (hb4.block _ hs3).trans HBX3.out, by rw [HBZ.out]; exact hb24, by rw [HBZ.out]; exact Nat.le_refl _⟩
   clear hb24 hr4 hb4 hby;refine hT 9 24 hS4 ?_;refine heldTake 10 34 (v := .agg #[.int .i64 it.1, .slice a4 it.2.length c4]) rfl rfl (by kernel_rfl) (by kernel_rfl) (by kernel_rfl) (fun _ _ _ h => h) hS4 (.inl ⟨by rfl, by intro w' hS; clear hS; go_simp; (try (all_goals rfl))⟩) ?_;simp only [List.set_cons_zero, List.set_cons_succ];refine heldTake 11 35 (v := .bool true) rfl rfl (by kernel_rfl) (by kernel_rfl) (by kernel_rfl) (fun _ _ _ h => h) hS4 (.inl ⟨by rfl, by intro w' hS; clear hS; go_simp; (try (all_goals rfl))⟩) ?_;simp only [List.set_cons_zero, List.set_cons_succ];clear hS4;generalize W2.heap.size = n at hnw ⊢;exact hway V4 n a4 c4 hnw
  intro U n a c hnw;have HRU := Hh hnw.rf;have HBY := Hh hnw.by_;have HBX := Hh hnw.bx;have HBU := Hh (show Below W2.heap.size W2 U by rw [← HBZ.out]; exact hnw.bel);have hnB : W2.heap.size ≤ n := by rw [← HBZ.out]; exact hnw.le
  clear hnw;have hnU : n < U.heap.size := (Array.getElem?_eq_some_iff.1 HBX.out).1;refine Op1 13 ?_;refine wp_store_row 40 (.tmp 5) (.tmp 34) rfl n #[.int .i64 it.1, .slice a it.2.length c] rfl rfl 40 _ HBX.out infoItem rfl (by simp [Value.oneCell']) ?_;obtain ⟨X, hX⟩ : ∃ X, X = U.setRow n #[.int .i64 it.1, .slice a it.2.length c] := ⟨_, rfl⟩
  rw [← hX];have hoX : ∀ k, k ≠ n → X.heap[k]? = U.heap[k]? := fun k hk => by rw [hX]; exact setRow_other _ _ _ _ hk
  have hsX : X.heap.size = U.heap.size := by rw [hX]; simp
  have hbX : Below W2.heap.size U X := by rw [hX]; exact below_setRow U _ hnB
  have hrX := setRow_heap U n _ #[.int .i64 it.1, .slice a it.2.length c] 40 _ HBX.out;rw [← hX] at hrX;have hnot : ¬ M.own p n := HR2.out.notNew hnB;have hRX : RfAt X p Rn M := HRU.out.far hnot HBX.out (by decide) (fun m hm e => by have := (HR2.out.po.m m hm).block e; omega) hoX (by omega);have hSX : NextS p M.lb (R.applied + 1) R.commit X := by have h9 := hRX.nextS; rw [HRN.out.1, HRN.out.2.2] at h9; exact h9
  have HBYX := Hh (show ByAt X a c it.2 from OwnBs.grown (T := 5) HBY.out (fun k cs fr _ hk => hoX k (fun e => by rw [e] at hk; exact absurd (kind_eq HBX.out hk) (by decide))) (by omega));have HRX := Hh hRX;have HROWX := Hh hrX;have HBX2 := Hh (HBU.out.trans hbX);refine ⟨hSX, ?_⟩;refine hT 14 6 hSX ?_;refine OpE ?_;have hsX2 := HBX2.out.size;have HROWR := Hh ((HBX2.out.block w.heap.size (by omega)).trans HROW2.out);clear hX hoX hsX hbX hrX hRX hSX hnot hnU;go_wp2_with fail;refine OpR (S := NextB p n (R.applied + 1) it a c) ?_;obtain ⟨Y, hY⟩ : ∃ Y, Y = X.drew := ⟨_, rfl⟩
  have hdr : Below X.heap.size X Y := by rw [hY]; exact (Below.refl _ _).drew
  have hnX : n < X.heap.size := (Array.getElem?_eq_some_iff.1 HROWX.out).1
  (refine (show wpAnyH _ _ _ _ _ _ _ _ X.drew from ?_))
  rw [← hY];clear hY;have HRY := Hh (HRX.out.below hdr);have HROWY := Hh ((hdr.block _ (by omega)).trans HROWR.out);have hbxY := (hdr.block n hnX).trans HROWX.out;have HBXY := Hh hbxY;have hS0 : NextB p n (R.applied + 1) it a c Y := ⟨by rw [← HRN.out.1]; exact HRY.out.c rfl, hbxY⟩
  refine heldTake 0 36 rfl rfl (by kernel_rfl) (by kernel_rfl) (by kernel_rfl) (fun _ _ _ h => h) hS0 (.inl ⟨by rfl, by intro w' hS; clear hS; go_simp; (try rfl)⟩) ?_;simp only [List.set_cons_zero, List.set_cons_succ];refine heldTake 4 40 (v := .agg #[.int .i64 it.1, .slice a it.2.length c]) rfl rfl (by kernel_rfl) (by kernel_rfl) (by kernel_rfl) (fun _ _ _ h => h) hS0 (.inl ⟨by rfl, by intro w' hS; have b0 := cell_of_row w' n 0 _ _ _ hS.bx; have b1 := cell_of_row w' n 1 _ _ _ hS.bx; clear hS; go_simp; (try (all_goals rfl))⟩) ?_;simp only [List.set_cons_zero, List.set_cons_succ];refine hT 1 37 hS0 ?_;refine hT 2 38 hS0 ?_;refine hT 3 39 hS0 ?_;refine hT 5 2 hS0 ?_;clear hS0;refine Op1 6 ?_;refine wp_store_row 40 (.tmp 3) (.tmp 40) rfl w.heap.size #[.int .i64 it.1, .slice a it.2.length c] rfl rfl 40 _ HROWY.out infoItem rfl (by simp [Value.oneCell']) ?_;obtain ⟨Z, hZ⟩ : ∃ Z, Z = Y.setRow w.heap.size #[.int .i64 it.1, .slice a it.2.length c] := ⟨_, rfl⟩
  rw [← hZ];have hoZ : ∀ k, k ≠ w.heap.size → Z.heap[k]? = Y.heap[k]? := fun k hk => by rw [hZ]; exact setRow_other _ _ _ _ hk
  have hsZ : Z.heap.size = Y.heap.size := by rw [hZ]; simp
  have hbZ : Below w.heap.size Y Z := by rw [hZ]; exact below_setRow Y _ (Nat.le_refl _)
  have hrZ := setRow_heap Y w.heap.size _ #[.int .i64 it.1, .slice a it.2.length c] 40 _ HROWY.out;rw [← hZ] at hrZ;have hRZ : RfAt Z p Rn M := HRY.out.far HNW.out HROWY.out (by decide) (fun m hm e => by have := (HH.out.po.m m hm).block e; omega) hoZ (by omega);have hSZ : NextB p n (R.applied + 1) it a c Z := ⟨by rw [← HRN.out.1]; exact hRZ.c rfl, (hoZ n (by omega)).trans HBXY.out⟩
  have HBYZ := Hh (show ByAt Z a c it.2 from OwnBs.grown (T := 5) (HBYX.out.below hdr) (fun k cs fr _ hk => hoZ k (fun e => by rw [e] at hk; exact absurd (kind_eq HROWY.out hk) (by decide))) (by omega));have HRZ := Hh hRZ;have HROWZ := Hh hrZ;have HTZ := Hh (show RTouch p M M w Z from ((HT2.out.trans (.ofBelow HBX2.out)).trans (.ofBelow hdr)).andBelow hbZ);refine ⟨hSZ, ?_⟩;refine hT 7 4 hSZ ?_;refine OpE ?_;clear hSZ hZ hoZ hsZ hbZ hrZ hRZ hdr hbxY;go_wp2;refine bodyPost_ret (results_tmp_row_tmp rfl _ _ w.heap.size 40 _ (0, 0) _ rfl HROWZ.out Tryz.underlying40 rfl infoItem) rfl ?_;unfold NextTo;rw [HF.out];exact ⟨a, c, rfl, HBYZ.out, M, HRZ.out, HTZ.out⟩
end Go.Proofs.YtogcnfhmcpkdcaaGreat
namespace Go.Proofs.YtogcnfhmcpkdcaaGreat
open Go.RowKit
set_option linter.unusedVariables false
set_option linter.unusedSimpArgs false
set_option maxRecDepth 100000 in
set_option maxHeartbeats 2000000 in
theorem raftPropose (p : Nat) (R : PRaft) (M : RMem) (ba : Option Addr) (bc : Nat) (b : List UInt8) (hn1 : 1 ≤ R.n) (hn7 : R.n ≤ 7) (hm0 : 0 ≤ R.me) (hmn : R.me < R.n) (hg : R.line.Good) (hx : ∀ x ∈ R.nxt, 0 ≤ x ∧ x ≤ 1099511627777) (hnw : R.news.length ≤ 999990000) (ho : R.out.length ≤ 999999000) (w : World) (hb : BsAt w w.heap.size ba b.length bc b) (h : RfAt w p R M) :
  Calls Tryz.prog 13 #[.pointer (some ⟨p, 0, none⟩), .slice ba b.length bc] w fun e w' => e = .returned (.tuple #[.int .i64 (R.propose b).2.1, .int .i64 (R.propose b).2.2]) ∧ ∃ M', RfAt w' p (R.propose b).1 M' ∧ RTouch p M M' w w' := by
 have c6 : w.cell? ⟨p, 6, none⟩ = some (.int .i64 R.role) := h.c rfl;have HR := Hh h;have HG := Hh hg;have HX := Hh hx;have HB := Hh hb;clear h hg hx hb;by_cases h1 : R.role = 2
 case neg =>
  have t1 : (R.role != 2) = true := by simpa using h1
  have HF := Hh (show R.propose b = (R, 0, 22) by unfold PRaft.propose; rw [if_pos h1]);clear h1;go_enter Tryz.func13, Tryz.ntmps13
  go_wp2;go_ret2;rw [HF.out];exact ⟨rfl, M, HR.out, .refl _ _ _⟩
 have t1 : (R.role != 2) = false := by simp [h1]
 by_cases h2 : b.length = 0
 ·have t2 : ((b.length : Int) == 0) = true := by simp [h2]
  have HF := Hh (show R.propose b = (R, 0, 1) by unfold PRaft.propose; rw [if_neg (by simp [h1]), if_pos h2]);obtain ⟨n, hn⟩ : ∃ n, n = b.length := ⟨_, rfl⟩
  rw [← hn] at t2 ⊢;clear h1 h2 hn;go_enter Tryz.func13, Tryz.ntmps13
  go_wp2;go_ret2;rw [HF.out];exact ⟨rfl, M, HR.out, .refl _ _ _⟩
 have t2 : ((b.length : Int) == 0) = false := by simp; exact fun e => h2 (by simp [e])
 by_cases h3 : 8192 < b.length
 ·have t3 : decide ((8192 : Int) < (b.length : Int)) = true := by simp; omega
  have HF := Hh (show R.propose b = (R, 0, 4) by unfold PRaft.propose; rw [if_neg (by simp [h1]), if_neg h2, if_pos h3]);obtain ⟨n, hn⟩ : ∃ n, n = b.length := ⟨_, rfl⟩
  rw [← hn] at t2 t3 ⊢;clear h1 h2 h3 hn;go_enter Tryz.func13, Tryz.ntmps13
  go_wp2;go_ret2;rw [HF.out];exact ⟨rfl, M, HR.out, .refl _ _ _⟩
 have t3 : decide ((8192 : Int) < (b.length : Int)) = false := by simp; omega
 obtain ⟨A, hA⟩ : ∃ A, (R.line.add (R.bt, b)).2 = A := ⟨_, rfl⟩
 obtain ⟨R3, hR3⟩ : ∃ R3 : PRaft, R3 = { R with line := (R.line.add (R.bt, b)).1 } := ⟨_, rfl⟩
 have HP := Hh (show R.propose b = if A = 0 then (R, 0, 18) else (((R3.noteItems A).look).others PRaft.send, A, 0) by
  unfold PRaft.propose;rw [if_neg (by simp [h1]), if_neg h2, if_neg h3, hR3, ← hA];rfl)
 have hab := add_at R.line HG.out (R.bt, b);rw [hA] at hab;have HGA := Hh (show R3.line.Good by rw [hR3]; exact HG.out.add _);have HN3 := Hh (show R3.news = R.news ∧ R3.out = R.out ∧ R3.n = R.n ∧ R3.me = R.me ∧ R3.nxt = R.nxt by rw [hR3]; exact ⟨rfl, rfl, rfl, rfl, rfl⟩);have HA := Hh hA;have HR3d := Hh hR3;clear h1 h2 h3 hA hR3;go_enter Tryz.func13, Tryz.ntmps13
 go_wp2_with fail;refine OpR (S := AddR p M.lb R.bt) ?_;have hdr : Below w.heap.size w w.drew := (Below.refl _ _).drew;have HR2 := Hh (HR.out.below hdr);have hS0 : AddR p M.lb R.bt w.drew := HR2.out.addR;refine hT 0 21 hS0 ?_;refine hT 4 25 hS0 ?_;refine hT 9 30 hS0 ?_;refine hT 1 22 hS0 ?_;refine hT 5 26 hS0 ?_;refine hT 2 23 hS0 ?_;refine hT 6 27 hS0 ?_;refine hT 3 24 hS0 ?_;refine hT 7 28 hS0 ?_;refine hT 8 29 hS0 ?_;refine heldTake 10 31 (v := .agg #[.int .i64 R.bt, .slice ba b.length bc]) rfl rfl (by kernel_rfl) (by kernel_rfl) (by kernel_rfl) (fun _ _ _ h => h) hS0 (.inl ⟨by rfl, by intro w' hS; clear hS; go_simp; (try (all_goals rfl))⟩) ?_;simp only [List.set_cons_zero, List.set_cons_succ];clear hS0 c6;refine Op1 11 ?_;go_simp;refine (lineAdd 0 M.lb R.line HG.out M.la M.lc M.ms R.bt ba bc b _ HR2.out.ln ((HB.out.below hdr (Nat.le_refl _)).mono hdr.size) (Nat.zero_le _)).mono ?_;rintro e w2 ⟨rfl, hl2⟩;rw [HA.out];obtain ⟨la, lc, ms, hr3, ht3⟩ := HR2.out.lined hl2;rw [← HR3d.out] at hr3;obtain ⟨M3, hM3⟩ : ∃ M3 : RMem, M3 = { M with la := la, lc := lc, ms := ms } := ⟨_, rfl⟩
 rw [← hM3] at hr3 ht3;have HR3 := Hh hr3;have HT3 := Hh ((RTouch.ofBelow hdr).trans ht3);have hS2 : AddR p M.lb R.bt w2 := by
  have h9 := hr3.addR;rw [hM3, HR3d.out] at h9;exact h9
 refine ⟨hS2, ?_⟩;refine hT 12 6 hS2 ?_;refine OpE ?_;clear hS2 hdr hl2 hr3 ht3 hM3;by_cases hz : A = 0
 ·have t4 : (A == 0) = true := by simpa using hz
  have HF := Hh (show R.propose b = (R, 0, 18) by rw [HP.out, if_pos hz]);have hsame : R3 = R := by
   rw [HR3d.out];have h9 : (R.line.add (R.bt, b)).1 = R.line := by
    have h8 := HA.out;rw [hz] at h8;unfold PLine.add at h8 ⊢;split at h8
    ·rename_i h7
     have hl : R.line.last = R.line.base + (R.line.l.length : Int) := rfl;have := HG.out.b0;simp only at h8;omega
    ·rename_i h7; rw [if_neg h7]
   rw [h9]
  have HSM := Hh hsame;clear hz hab hsame;go_wp2;go_ret2;rw [HF.out];exact ⟨rfl, M3, by have h9 := HR3.out; rw [HSM.out] at h9; exact h9, HT3.out⟩
 ·have t4 : (A == 0) = false := by simpa using hz
  have HF := Hh (show R.propose b = (((R3.noteItems A).look).others PRaft.send, A, 0) by rw [HP.out, if_neg hz]);have HNI := Hh (raftNoteItems p R3 M3 A hab.1 hab.2 HGA.out (by rw [HN3.out.1]; omega) _ HR3.out);clear hz hab;go_wp2_with fail;refine HNI.out.mono ?_;rintro e w4 ⟨rfl, M4, hr4, ht4⟩;have HR4 := Hh hr4;have HT4 := Hh (HT3.out.trans ht4);clear hr4 ht4;go_wp2_with fail;refine (raftLook p (R3.noteItems A) M4 (by show 1 ≤ R3.n; rw [HN3.out.2.2.1]; exact hn1) (by show R3.n ≤ 7; rw [HN3.out.2.2.1]; exact hn7) (by show 0 ≤ R3.me; rw [HN3.out.2.2.2.1]; exact hm0) (by show R3.me < R3.n; rw [HN3.out.2.2.1, HN3.out.2.2.2.1]; exact hmn) HGA.out _ HR4.out).mono ?_;rintro e w5 ⟨rfl, M5, hr5, ht5⟩;have HR5 := Hh hr5;have HT5 := Hh (HT4.out.trans ht5);have HS5 := Hh (show (R3.noteItems A).look.n = R.n ∧ (R3.noteItems A).look.line = R3.line ∧ (R3.noteItems A).look.nxt = R.nxt ∧ (R3.noteItems A).look.out = R.out by
   obtain ⟨m9, c9, hl9, -, -⟩ := look_eq (R3.noteItems A);rw [hl9];exact ⟨HN3.out.2.2.1, rfl, HN3.out.2.2.2.2, HN3.out.2.1⟩)
  clear hr5 ht5;go_wp2_with fail;refine (raftBeat p _ M5 (by rw [HS5.out.1]; omega) (by rw [HS5.out.1]; exact hn7) (by rw [HS5.out.2.1]; exact HGA.out) (by rw [HS5.out.2.2.1]; exact HX.out) (by rw [HS5.out.2.2.2]; exact ho) _ HR5.out).mono ?_;rintro e w6 ⟨rfl, M6, hr6, ht6⟩;have HR6 := Hh hr6;have HT6 := Hh (HT5.out.trans ht6);clear hr6 ht6;go_wp2;go_ret2;rw [HF.out];exact ⟨rfl, M6, HR6.out, HT6.out⟩
end Go.Proofs.YtogcnfhmcpkdcaaGreat
