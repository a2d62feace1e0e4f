/-
  Walks of a group: a step.
-/
import Derived.Test.YtogcnfhmcpkdcaaGreatGrE
import Derived.Deep.QuietTactic
import Derived.BigQuiet
namespace Go.Proofs.YtogcnfhmcpkdcaaGreat
open Go.RowKit
set_option linter.unusedVariables false
set_option linter.unusedSimpArgs false
section
variable {w w' w1 : World} {B g n c : Nat} {G : PGroup} {M : GMem} {i : Nat} {gh : Gh}
structure PrS (g b0 n cap I p bx : Nat) (v : Value) (W : World) : Prop where
 s : g < W.heap.size
 c0 : W.cell? ⟨g, 0, none⟩ = some (.slice (some ⟨b0, 0, none⟩) n cap)
 k0 : W.cell? ⟨b0, I, none⟩ = some (.pointer (some ⟨p, 0, none⟩))
 d3 : W.cell? ⟨bx, 3, none⟩ = some v
theorem PrS.below {b0 n cap I p bx : Nat} {v : Value} (h : PrS g b0 n cap I p bx v w) (hb : Below w.heap.size w w') : PrS g b0 n cap I p bx v w' :=
 ⟨Nat.lt_of_lt_of_le h.s hb.size, (hb.cell (p := ⟨g, 0, none⟩) h.s).trans h.c0, (hb.cell (p := ⟨b0, I, none⟩) (cell_lt9 h.k0)).trans h.k0, (hb.cell (p := ⟨bx, 3, none⟩) (cell_lt9 h.d3)).trans h.d3⟩
structure LyS (g n I b0 cap0 b1 cap1 b2 cap2 : Nat) (v1 v2 : Value) (W : World) : Prop where
 s : g < W.heap.size
 c0 : W.cell? ⟨g, 0, none⟩ = some (.slice (some ⟨b0, 0, none⟩) n cap0)
 c1 : W.cell? ⟨g, 1, none⟩ = some (.slice (some ⟨b1, 0, none⟩) n cap1)
 k1 : W.cell? ⟨b1, I, none⟩ = some v1
 c2 : W.cell? ⟨g, 2, none⟩ = some (.slice (some ⟨b2, 0, none⟩) n cap2)
 k2 : W.cell? ⟨b2, I, none⟩ = some v2
theorem LyS.below {n I b0 cap0 b1 cap1 b2 cap2 : Nat} {v1 v2 : Value} (h : LyS g n I b0 cap0 b1 cap1 b2 cap2 v1 v2 w) (hb : Below w.heap.size w w') : LyS g n I b0 cap0 b1 cap1 b2 cap2 v1 v2 w' :=
 ⟨Nat.lt_of_lt_of_le h.s hb.size, (hb.cell (p := ⟨g, 0, none⟩) h.s).trans h.c0, (hb.cell (p := ⟨g, 1, none⟩) h.s).trans h.c1, (hb.cell (p := ⟨b1, I, none⟩) (cell_lt9 h.k1)).trans h.k1, (hb.cell (p := ⟨g, 2, none⟩) h.s).trans h.c2, (hb.cell (p := ⟨b2, I, none⟩) (cell_lt9 h.k2)).trans h.k2⟩
structure CyS (g n I b0 cap0 p b3 cap3 : Nat) (a : Nat) (W : World) : Prop where
 s : g < W.heap.size
 c0 : W.cell? ⟨g, 0, none⟩ = some (.slice (some ⟨b0, 0, none⟩) n cap0)
 cp : W.cell? ⟨b0, I, none⟩ = some (.pointer (some ⟨p, 0, none⟩))
 c3 : W.cell? ⟨g, 3, none⟩ = some (.slice (some ⟨b3, 0, none⟩) n cap3)
 k3 : W.cell? ⟨b3, I, none⟩ = some (.int .i64 a)
theorem CyS.below {n I b0 cap0 p b3 cap3 a : Nat} (h : CyS g n I b0 cap0 p b3 cap3 a w) (hb : Below w.heap.size w w') : CyS g n I b0 cap0 p b3 cap3 a w' :=
 ⟨Nat.lt_of_lt_of_le h.s hb.size, (hb.cell (p := ⟨g, 0, none⟩) h.s).trans h.c0, (hb.cell (p := ⟨b0, I, none⟩) (cell_lt9 h.cp)).trans h.cp, (hb.cell (p := ⟨g, 3, none⟩) h.s).trans h.c3, (hb.cell (p := ⟨b3, I, none⟩) (cell_lt9 h.k3)).trans h.k3⟩
structure HyS (g n I b0 cap0 p b1 cap1 : Nat) (W : World) : Prop where
 s : g < W.heap.size
 c0 : W.cell? ⟨g, 0, none⟩ = some (.slice (some ⟨b0, 0, none⟩) n cap0)
 cp : W.cell? ⟨b0, I, none⟩ = some (.pointer (some ⟨p, 0, none⟩))
 c1 : W.cell? ⟨g, 1, none⟩ = some (.slice (some ⟨b1, 0, none⟩) n cap1)
theorem HyS.below {n I b0 cap0 p b1 cap1 : Nat} (h : HyS g n I b0 cap0 p b1 cap1 w) (hb : Below w.heap.size w w') : HyS g n I b0 cap0 p b1 cap1 w' :=
 ⟨Nat.lt_of_lt_of_le h.s hb.size, (hb.cell (p := ⟨g, 0, none⟩) h.s).trans h.c0, (hb.cell (p := ⟨b0, I, none⟩) (cell_lt9 h.cp)).trans h.cp, (hb.cell (p := ⟨g, 1, none⟩) h.s).trans h.c1⟩
set_option maxRecDepth 100000 in
set_option maxHeartbeats 4000000 in
theorem l18step {od oa on : Int} {sa : Option Addr} {sc kk : Nat} {b : List UInt8} (h : At9 w B g n c kk) (h5 : n ≤ 5) (hc : c + 7 ≤ 2000) (hb : BsAt w w.heap.size sa b.length sc b) (hbl : b.length ≤ 50) :
  Calls Tryz.prog 24 #[.pointer (some ⟨g, 0, none⟩), .agg #[.int .i64 od, .int .i64 oa, .int .i64 on, .slice sa b.length sc]] w fun e w' => e = .returned (.tuple #[]) ∧ At9 w' B g n (c + 7) (kk + 5) ∧ Below B w w' := by
 obtain ⟨gh, G, M, ci, h⟩ := h;have hn1 := h.si.n1;have hn7 := h.si.n7;have hpl := h.pl;have hml := h.ml;have hbag := h.si.bagl;obtain ⟨L, hL⟩ : ∃ L, L = G.bag.length := ⟨_, rfl⟩
 obtain ⟨W1, hW1⟩ : ∃ W1, W1 = w.alloc (.cells #[.int .i64 od, .int .i64 oa, .int .i64 on, .slice sa b.length sc] 60) := ⟨_, rfl⟩
 have hb1 : Below w.heap.size w W1 := by rw [hW1]; exact (Below.refl _ _).alloc (Nat.le_refl _) _
 obtain ⟨bx, hbx⟩ : ∃ bx, bx = w.heap.size := ⟨_, rfl⟩
 have hrow1 : W1.heap[bx]? = some (.cells #[.int .i64 od, .int .i64 oa, .int .i64 on, .slice sa b.length sc] 60 (0, 0)) := by rw [hW1, hbx]; exact heap_alloc_new w _
 have H1 := Hh (h.below hb1);have hc0 : ∀ V, Rest V B g n c kk gh G M ci → V.cell? ⟨g, 0, none⟩ = some (.slice (M.ra 0) n (M.rc 0)) := fun V hV => by rw [← hpl]; exact hV.gr.cl (i := 0) (by omega)
 have hc4 : ∀ V, Rest V B g n c kk gh G M ci → V.cell? ⟨g, 4, none⟩ = some (.slice (M.ra 4) L (M.rc 4)) := fun V hV => by rw [hL, ← hml]; exact hV.gr.cl (i := 4) (by omega)
 have HC0 := Hh hc0;have HC4 := Hh hc4;have c0 := hc0 _ H1.out;have d1 : W1.cell? ⟨bx, 1, none⟩ = some (.int .i64 oa) := by rw [cell_of_row _ _ 1 _ _ _ hrow1]; rfl
 have HW1 := Hh hW1;have HBX := Hh hbx;have HROW1 := Hh hrow1;have HBW1 := Hh hb1;have HB := Hh hb;have HBS := Hh h.gr.bs;have HLQ := Hh hL;clear h hW1 hrow1 hb1 hb hL hc0 hc4 hml hpl hbag hbx;go_enter Tryz.func24, Tryz.ntmps24
 go_wp2_with fail;rw [← HBX.out, ← HW1.out];obtain ⟨I, hI⟩ : ∃ I, I = pk oa n := ⟨_, rfl⟩
 go_quiet (first | (go_at_call 58; refine Calls.quiet_of_same (r1PickZ oa n (by omega) _)))
 rw [← hI];obtain ⟨W2, hW2⟩ : ∃ W2, W2 = W1.drewN nq := ⟨_, rfl⟩
 rw [← hW2];have hb2 : Below W1.heap.size W1 W2 := by rw [hW2]; exact below_drewN W1 nq
 have H2 := Hh (H1.out.below hb2);have c4 := HC4.out _ H2.out;have hrow2 : W2.heap[bx]? = some (.cells #[.int .i64 od, .int .i64 oa, .int .i64 on, .slice sa b.length sc] 60 (0, 0)) := (hb2.block _ (Array.getElem?_eq_some_iff.1 HROW1.out).1).trans HROW1.out;have d2 : W2.cell? ⟨bx, 2, none⟩ = some (.int .i64 on) := by rw [cell_of_row _ _ 2 _ _ _ hrow2]; rfl
 have HROW2 := Hh hrow2;have HBW2 := Hh (HBW1.out.trans (hb2.mono HBW1.out.size));obtain ⟨K, hK⟩ : ∃ K, K = pk on L := ⟨_, rfl⟩
 have hL2 : L ≤ 2000 := by rw [HLQ.out]; exact H1.out.si.bagl
 have HI := Hh hI;clear hb2 hW2 hrow2 hI c0 d1;go_wp2_with fail;go_quiet (first | (go_at_call 58; refine Calls.quiet_of_same (r1PickZ on L (by omega) _)))
 rw [← hK];obtain ⟨W3, hW3⟩ : ∃ W3, W3 = W2.drewN nq := ⟨_, rfl⟩
 rw [← hW3];have hb3 : Below W2.heap.size W2 W3 := by rw [hW3]; exact below_drewN W2 nq
 have H3 := Hh (H2.out.below hb3);have hrow3 : W3.heap[bx]? = some (.cells #[.int .i64 od, .int .i64 oa, .int .i64 on, .slice sa b.length sc] 60 (0, 0)) := (hb3.block _ (Array.getElem?_eq_some_iff.1 HROW2.out).1).trans HROW2.out;have d0 : W3.cell? ⟨bx, 0, none⟩ = some (.int .i64 od) := by rw [cell_of_row _ _ 0 _ _ _ hrow3]; rfl
 have HROW3 := Hh hrow3;have HBW3 := Hh (HBW2.out.trans (hb3.mono HBW2.out.size));have hIn : I < n := by rw [HI.out]; exact pk_lt (by omega)
 have HKL := Hh (show 0 < L → K < L from fun h9 => by rw [hK]; exact pk_lt h9);have hK2 : K ≤ 2000 := by
  by_cases h9 : 0 < L
  ·have := HKL.out h9; omega
  ·have h8 : L = 0 := by omega
   rw [hK, h8]; unfold pk; simp
 obtain ⟨wo, hwo⟩ : ∃ wo : World, wo = w := ⟨_, rfl⟩
 have HWO := Hh hwo;rw [← hwo] at HBW3 HBS;clear hb3 hW3 hrow3 hK c4 d2 hwo;go_upto_region 4 with fail
 have hKL := HKL.out;have c0 := HC0.out _ H3.out;have c4 := HC4.out _ H3.out;have HBB := Hh (HBW3.out.mono HBS.out);clear d0 hKL;by_cases e0 : od = 0
 ·subst e0;clear c0 c4;go_wp2_with fail;go_loopw [6] (fun iv wr => ∃ j : Nat, iv = .int .i64 j ∧ j ≤ n ∧ At9 wr B g n (c + j) (kk + j) ∧ Below B w wr) (fun iv _ => n - (intOf iv).toNat)
  case atStart => exact ⟨0, rfl, by omega, ⟨_, _, _, _, H3.out⟩, by rw [← HWO.out]; exact HBB.out⟩
  case round =>
   obtain ⟨j, rfl, hjn, ⟨g2, G2, M2, c2, h2⟩, hbj⟩ := hrel;have H4 := Hh h2;have HBJ := Hh hbj;have c0 : wr.cell? ⟨g, 0, none⟩ = some (.slice (M2.ra 0) n (M2.rc 0)) := by rw [← h2.pl]; exact h2.gr.cl (i := 0) (by omega)
   clear h2 hbj;by_cases hjl : j < n
   ·have t1 : decide ((j : Int) < (n : Int)) = true := decide_eq_true (by omega);have t1n : decide (j < n) = true := decide_eq_true hjl;obtain ⟨R, p, N, hR, hq, hri, ho, hnw, hj, hca, hat, hgr⟩ := H4.out.get hjl;have hok := hri.ok;obtain ⟨b0, hb1, hb2, -⟩ := hgr.ptr hq;rw [hb1] at c0;have HGR := Hh hgr;have HR := Hh hR;have HQ := Hh hq;have HOK := Hh hok;have HNO := Hh (And.intro hnw ho);have hI0 : (0 : Int) ≤ (j : Int) := by omega
    have hI1 : (j : Int) < (n : Int) := by omega
    clear hR hq hri ho hnw hj hca hat hgr hok hb1;go_wp2_with fail;refine (raftTick p R N HOK.out.n1 HOK.out.n7 HOK.out.me0 HOK.out.men HOK.out.bt0 HOK.out.bt1 HOK.out.line HOK.out.xs HOK.out.tk0 (by have := HOK.out.tk1; omega) (by rw [HNO.out.1]; simp) (by rw [HNO.out.2]; simp) _ (HGR.out.rf j R (p, N) HR.out HQ.out)).mono ?_;rintro e w5 ⟨rfl, N1, hr5, ht5⟩;have hg5 := HGR.out.putRaft HR.out HQ.out hr5 ht5;have HG5 := Hh hg5;have HB5 := Hh (HBJ.out.trans (ht5.below (fun k hk => HGR.out.inn (.raft j) k ⟨_, HQ.out, hk⟩) HGR.out.bs));have hq5 : ({ M2 with ps := M2.ps.set j (p, N1) } : GMem).ps[j]? = some (p, N1) := by
     show (M2.ps.set j _)[j]? = _;rw [set_get (List.getElem?_eq_some_iff.1 HQ.out).1, if_pos rfl]
    obtain ⟨hcw, g', hsi⟩ := H4.out.si.tick (by omega) HR.out;have HSI := Hh hsi;have HCW := Hh hcw;clear hg5 hr5 ht5 hcw hsi c0 hb2;go_wp2_with fail;refine (l18coll HG5.out hq5 HCW.out).mono ?_;rintro e w6 ⟨rfl, M6, N6, hg6, hp6, hn6, hb6⟩;have HF := Hh (show Rest w6 B g n (c + (j + 1)) (kk + (j + 1)) g' _ M6 j from ⟨HSI.out.up (by omega) (by omega), hg6, fun q hq9 => by rw [hp6] at hq9; injection hq9 with hq9; subst hq9; exact hn6⟩);have HFB := Hh (HB5.out.trans hb6);clear hg6 hb6;go_wp2_with fail;go_roundw
    case rel => exact ⟨j + 1, by go_num, by omega, ⟨_, _, _, _, HF.out⟩, HFB.out⟩
    case measure => simp [intOf]; omega
   ·have t1 : decide ((j : Int) < (n : Int)) = false := decide_eq_false (by omega);have t1n : decide (j < n) = false := decide_eq_false hjl;have HF := Hh (show At9 wr B g n (c + 7) (kk + 5) from ⟨_, _, _, _, ⟨H4.out.si.up (by omega) (by omega), H4.out.gr, H4.out.em⟩⟩);go_wp2_with fail
    ((try simp only [Exit.inBlock, Exit.then]); refine bodyPost_ret (results_none rfl _ _ _) rfl ?_)
    exact ⟨rfl, HF.out, HBJ.out⟩
 by_cases e1 : od = 1
 ·subst e1;clear c0 e0;by_cases hl : 0 < L
  ·have t1 : decide (0 < (L : Int)) = true := decide_eq_true (by omega);have t1n : decide (0 < L) = true := decide_eq_true hl;have hkl := HKL.out hl;obtain ⟨y, hy⟩ : ∃ y, G.bag[K]? = some y := ⟨_, List.getElem?_eq_getElem (by rw [← HLQ.out]; exact hkl)⟩
   obtain ⟨f, x, hf, hx, hlt⟩ := H3.out.si.bag y (List.mem_of_getElem? hy);obtain ⟨j, hj⟩ : ∃ j : Nat, y.2.1 = j := ⟨y.2.1.toNat, by have := hlt.w0; omega⟩
   have hjn : j < n := by have := hlt.w1; omega
   have hye : y = ((f : Int), (j : Int), putL x) := by
    obtain ⟨y1, y2, y3⟩ := y;have hf : y1 = _ := hf;have hj : y2 = _ := hj;have hx : y3 = _ := hx;rw [hf, hj, hx]
   rw [hye] at hy;rw [hj] at hlt;obtain ⟨R, p, N, hR, hq, hri, ho, hnw, hju, hca, hat, hgr⟩ := H3.out.get hjn;obtain ⟨hcw, g', hsi⟩ := (H3.out.si.without K).handle (by omega) hR hlt;have HSI := Hh hsi;have HD := Hh (l18deliver H3.out.gr H3.out.em hy hlt.right H3.out.si.bagl H3.out.si.right hR hq hri.ok (by rw [hnw]; simp) (by rw [ho]; simp) hcw);clear hkl hy hf hx hlt hj hjn hye hR hq hri ho hnw hju hca hat hgr hcw hsi;go_wp2_with fail;refine HD.out.mono ?_;rintro e w6 ⟨rfl, M6, N6, hg6, hp6, hn6, hb6⟩;have HF := Hh (show Rest w6 B g n (c + 7) (kk + 5) g' _ M6 j from ⟨HSI.out.up (by omega) (by omega), hg6, fun q hq9 => by rw [hp6] at hq9; injection hq9 with hq9; subst hq9; exact hn6⟩);have HFB := Hh (HBB.out.trans hb6);clear hg6 hb6;go_wp2_with fail
   ((try simp only [Exit.inBlock, Exit.then]); refine bodyPost_ret (results_none rfl _ _ _) rfl ?_)
   exact ⟨rfl, ⟨_, _, _, _, HF.out⟩, by rw [← HWO.out]; exact HFB.out⟩
  ·have t1 : decide (0 < (L : Int)) = false := decide_eq_false (by omega);have t1n : decide (0 < L) = false := decide_eq_false hl;have HF := Hh (show Rest W3 B g n (c + 7) (kk + 5) gh G M ci from ⟨H3.out.si.up (by omega) (by omega), H3.out.gr, H3.out.em⟩);clear hl;go_wp2_with fail
   ((try simp only [Exit.inBlock, Exit.then]); refine bodyPost_ret (results_none rfl _ _ _) rfl ?_)
   exact ⟨rfl, ⟨_, _, _, _, HF.out⟩, by rw [← HWO.out]; exact HBB.out⟩
 by_cases e2 : od = 2
 ·subst e2;clear c0 e0 e1;by_cases hl : 0 < L
  ·have t1 : decide (0 < (L : Int)) = true := decide_eq_true (by omega);have t1n : decide (0 < L) = true := decide_eq_true hl;obtain ⟨iM, jM, jM0, jM1, jM2⟩ := info_parts infoMail;have HLM := Hh (show L = M.ms.length by rw [H3.out.ml]; exact HLQ.out);have HV := Hh H3.out.gr;have HBV := Hh (Below.refl W3.heap.size W3);have hkL : K < L := HKL.out hl;obtain ⟨b, hb1⟩ : ∃ b, M.ra 4 = some ⟨b, 0, none⟩ := by
    obtain ⟨b, cap, e⟩ := rowForm H3.out.gr (i := 4) (by omega) (by show 0 < M.ms.length; rw [← HLM.out]; exact hl);injection e with e
    exact ⟨b, e⟩
   rw [hb1] at c4;have hsl : SlAt W3 W3.heap.size 3 (some ⟨b, 0, none⟩) L (M.rc 4) (M.ms.flatMap MMail.cells) := by
    obtain ⟨a9, c9, e9, h9⟩ := SlAt.ofOwns (H3.out.gr.rows 4 (by omega));have e9 : Value.slice (M.ra 4) M.ms.length (M.rc 4) = _ := e9;injection e9 with e1 _ e3
    subst e1 e3;rw [← hb1, HLM.out]; exact h9
   have hcap : L ≤ M.rc 4 := hsl.hle;obtain ⟨cap, hcp⟩ : ∃ cap, cap = M.rc 4 := ⟨_, rfl⟩
   rw [← hcp] at c4 hsl hcap;have HSL := Hh hsl;have HSV := Hh (show DlS g b L cap W3 from ⟨HV.out.lt (x := .g) rfl, c4⟩);clear hcp;obtain ⟨k1, hk1'⟩ : ∃ k1 : Nat, k1 = K + 1 := ⟨_, rfl⟩
   have wk : IntKind.i64.wrap ((K : Int) + 1) = (k1 : Int) := by rw [IntWalk.i64_in _ (by omega)]; omega
   have hrun1 : ∀ W3' : World, (Instr.slice 64 (.slice (some ⟨b, 0, none⟩) L cap) none (some (.int .i64 K)) none).run Tryz.prog W3' = .ok (.slice (some ⟨b, 0, none⟩) K cap) W3' := fun W3' =>
    run_upto Tryz.underlying64 infoMail3 (some ⟨b, 0, none⟩) L cap .i64 K (by omega) W3'
   obtain ⟨sa, hsa⟩ : ∃ sa, sa = (if cap = k1 then some ⟨b, 0, none⟩ else (some (⟨b, 0, none⟩ : Addr)).map (·.add (k1 * 3))) := ⟨_, rfl⟩
   have hrun2 : ∀ W3' : World, (Instr.slice 64 (.slice (some ⟨b, 0, none⟩) L cap) (some (.int .i64 k1)) none none).run Tryz.prog W3' = .ok (.slice sa (L - k1) (cap - k1)) W3' := fun W3' => by
    rw [hsa];exact run_from Tryz.underlying64 infoMail3 (some ⟨b, 0, none⟩) L cap .i64 k1 (by omega) W3'
   have HS1 := Hh (show SlAt W3 W3.heap.size 3 (some ⟨b, 0, none⟩) K cap ((M.ms.take K).flatMap MMail.cells) by
    rw [← mails_take]; exact HSL.out.upto (by omega) (by omega) (Nat.le_refl _))
   have HS2 := Hh (show SlAt W3 W3.heap.size 3 sa (L - k1) (cap - k1) ((M.ms.drop k1).flatMap MMail.cells) by
    rw [← mails_drop, hsa]; exact HSL.out.from_ (by omega))
   have HK1 := Hh hk1';clear hsa hk1' hcap hb1 hsl;go_wp2_with fail;clear c4;refine OpGZ (S := DlS g b L cap) 19 ?_;intro Y hdr;have hS : DlS g b L cap Y := HSV.out.below hdr;refine hTZ 0 70 hS ?_;refine hTZ 2 72 hS ?_;refine hTZ 6 76 hS ?_;refine hTZ 9 79 hS ?_;refine hTZ 13 83 hS ?_;refine hTZ 3 73 hS ?_;refine hTZ 10 80 hS ?_;refine hVZ 14 84 (.int .i64 k1) hS ?_;refine hTZ 4 74 hS ?_;refine hTZ 11 81 hS ?_;refine hTZ 5 75 hS ?_;refine hTZ 12 82 hS ?_;refine hVZ 7 77 (.slice (some ⟨b, 0, none⟩) K cap) hS ?_;refine hVZ 15 85 (.slice sa (L - k1) (cap - k1)) hS ?_;clear hrun1 hrun2 wk;refine Op1Z 1 ?_;go_simp;obtain ⟨U, hU⟩ : ∃ U, U = Y.alloc (.cells #[] 99) := ⟨_, rfl⟩
   rw [← hU];have hbU : Below Y.heap.size Y U := by rw [hU]; exact (Below.refl _ _).alloc (Nat.le_refl _) _
   have hsU : U.heap.size = Y.heap.size + 1 := by rw [hU]; simp
   have hmade : U.ownsRow Y.heap.size 99 3 (.slice (some ⟨Y.heap.size, 0, none⟩) 0 0) 0 [] := by rw [hU]; exact ownsRow_nilT Y Y.heap.size 3 (Nat.le_refl _) 99
   have hwY : W3.heap.size ≤ Y.heap.size := Nat.le_trans HBV.out.size hdr.size;have hbY : Below W3.heap.size W3 Y := HBV.out.trans (hdr.mono HBV.out.size);have hbwU : Below W3.heap.size W3 U := hbY.trans (hbU.mono hwY);refine ⟨hS.below hbU, ?_⟩;have HBY1 := Hh hbY;have HS9 := Hh hS;clear hS hU;refine Op1Z 8 ?_;refine wp_append_sl U (.tmp 71) (.tmp 77) 64 rfl Y.heap.size 99 iM (.agg #[.int .i64 0, .int .i64 0, .slice none 0 0]) 3 40 Tryz.underlying64 jM jM0 jM1 jM2 rfl (by decide) (.slice (some ⟨Y.heap.size, 0, none⟩) 0 0) 0 [] rfl hmade U.heap.size (some ⟨b, 0, none⟩) K cap ((M.ms.take K).flatMap MMail.cells) rfl ((HS1.out.below hbwU (Nat.le_refl _)).mono hbwU.size) mailsOne (by unfold maxLen; omega) (by omega) (by omega) ?_;intro a8 c8 W8 o8 g8 hat8;simp only [Nat.zero_add, List.nil_append] at o8;have hb8 : Below Y.heap.size Y W8 := by
    refine hbU.trans ⟨g8.os, g8.tape, g8.output, g8.size, fun K hk => g8.block K (by omega) (fun e => ?_)⟩;have e : some Y.heap.size = some K := e.symm;injection e with e; omega
   have hb8w := hbY.trans (hb8.mono hwY);have hS8 := HS9.out.below hb8;refine ⟨hS8, ?_⟩;simp only [Nat.zero_add];refine Op1Z 16 ?_;have hmk : (M.ms.drop k1).length = L - k1 := by rw [List.length_drop, HLM.out]
   refine wp_append_sl W8 (.tmp 78) (.tmp 85) 64 rfl Y.heap.size 99 iM (.agg #[.int .i64 0, .int .i64 0, .slice none 0 0]) 3 40 Tryz.underlying64 jM jM0 jM1 jM2 rfl (by decide) (.slice a8 K c8) K ((M.ms.take K).flatMap MMail.cells) rfl o8 W8.heap.size sa (L - k1) (cap - k1) ((M.ms.drop k1).flatMap MMail.cells) rfl ((HS2.out.below hb8w (Nat.le_refl _)).mono hb8w.size) mailsOne (by unfold maxLen; omega) (by omega) (by have := g8.size; omega) ?_;intro a16 c16 W16 o16 g16 hat16;have hb16 : Below Y.heap.size Y W16 := by
    refine hb8.trans ⟨g16.os, g16.tape, g16.output, g16.size, fun K hk => g16.block K (by have := hb8.size; omega) (fun e => ?_)⟩;have := (own_lt o8 e.symm).1;omega
   have hb16V : Below W3.heap.size W3 W16 := hdr.trans (hb16.mono hdr.size);have hS16 := HS9.out.below hb16;have hn16 : (M.ms.take K ++ M.ms.drop k1).length = K + (L - k1) := by rw [List.length_append, hmk, List.length_take, ← HLM.out]; omega
   have hset := HV.out.setBag hb16V (ms' := M.ms.take K ++ M.ms.drop k1) (fun m hm => by
    rcases List.mem_append.1 hm with h9 | h9
    ·exact List.mem_of_mem_take h9
    ·exact List.mem_of_mem_drop h9) hn16 (by rw [List.flatMap_append]; exact World.ownsRow.mono o16 hdr.size)
   have hbg : (M.ms.take K ++ M.ms.drop k1).map MMail.p = G.bag.take K ++ G.bag.drop (K + 1) := by rw [List.map_append, List.map_take, List.map_drop, HV.out.ct.bq, HK1.out]
   rw [hbg] at hset;refine ⟨hS16, ?_⟩;go_simp;refine hTZ 17 87 hS16 ?_;refine hTZ 18 88 hS16 ?_;refine OpL ?_;refine wp_store_cell 64 (.tmp 88) (.tmp 86) rfl g 4 (.slice a16 (K + (L - k1)) c16) _ rfl rfl rfl infoMails1 hS16.c4 ((HV.out.below hb16V).f 4) ?_;obtain ⟨W17, hW17⟩ : ∃ W17, W17 = W16.setCell ⟨g, 4, none⟩ (.slice a16 (K + (L - k1)) c16) := ⟨_, rfl⟩
   rw [← hW17] at hset ⊢;have HF := Hh (show Rest W17 B g n (c + 7) (kk + 5) gh _ _ ci from ⟨(H3.out.si.without K).up (by omega) (by omega), hset, fun q hq => H3.out.em q hq⟩);have HFB := Hh (show Below B w W17 from (show Below B w W3 by rw [← HWO.out]; exact HBB.out).trans ((hb16V.mono HV.out.bs).trans (by rw [hW17]; exact below_set (HV.out.inn .g g rfl) _)));clear hset hW17 hS16 hn16 hbg hb16 hb16V hmk o16 g16 hat16 o8 g8 hat8 hb8 hb8w hS8 hmade hbU hbwU hbY hwY hsU hdr;go_wp2_with fail
   ((try simp only [Exit.inBlock, Exit.then]); refine bodyPost_ret (results_none rfl _ _ _) rfl ?_)
   exact ⟨rfl, ⟨_, _, _, _, HF.out⟩, HFB.out⟩
  ·have t1 : decide (0 < (L : Int)) = false := decide_eq_false (by omega);have t1n : decide (0 < L) = false := decide_eq_false hl;have HF := Hh (show Rest W3 B g n (c + 7) (kk + 5) gh G M ci from ⟨H3.out.si.up (by omega) (by omega), H3.out.gr, H3.out.em⟩);clear hl;go_wp2_with fail
   ((try simp only [Exit.inBlock, Exit.then]); refine bodyPost_ret (results_none rfl _ _ _) rfl ?_)
   exact ⟨rfl, ⟨_, _, _, _, HF.out⟩, by rw [← HWO.out]; exact HBB.out⟩
 by_cases e3 : od = 3
 ·subst e3;clear c0 e0 e1 e2;by_cases hl : 0 < L ∧ L < 2000
  ·obtain ⟨hl, hl2⟩ := hl;have t1 : decide (0 < (L : Int)) = true := decide_eq_true (by omega);have t1n : decide (0 < L) = true := decide_eq_true hl;have t2 : decide ((L : Int) < 2000) = true := decide_eq_true (by omega);have t2n : decide (L < 2000) = true := decide_eq_true hl2;obtain ⟨iM, jM, jM0, jM1, jM2⟩ := info_parts infoMail;have HLM := Hh (show L = M.ms.length by rw [H3.out.ml]; exact HLQ.out);have HV := Hh H3.out.gr;have hkL : K < L := HKL.out hl;obtain ⟨m, hm⟩ : ∃ m, M.ms[K]? = some m := ⟨_, List.getElem?_eq_getElem (by rw [← HLM.out]; exact hkL)⟩
   obtain ⟨b, hb1⟩ : ∃ b, M.ra 4 = some ⟨b, 0, none⟩ := by
    obtain ⟨b, cap, e⟩ := rowForm H3.out.gr (i := 4) (by omega) (by show 0 < M.ms.length; rw [← HLM.out]; exact hl);injection e with e
    exact ⟨b, e⟩
   rw [hb1] at c4;have hrow := H3.out.gr.rows 4 (by omega);have hrow : W3.ownsRow 0 99 3 (.slice (M.ra 4) M.ms.length (M.rc 4)) M.ms.length (M.ms.flatMap MMail.cells) := hrow;obtain ⟨cap, hcp⟩ : ∃ cap, cap = M.rc 4 := ⟨_, rfl⟩
   rw [hb1, ← HLM.out, ← hcp] at hrow;rw [← hcp] at c4;have hln : (M.ms.flatMap MMail.cells).length = L * 3 := hrow.1;obtain ⟨z0, z1, z2⟩ := mailCells _ _ _ hm;have HROWM := Hh hrow;have hcs : ∀ V, Below W3.heap.size W3 V → ∀ j, j < L * 3 → V.cell? ⟨b, j, none⟩ = (M.ms.flatMap MMail.cells)[j]? := fun V hV j hj => by
    obtain ⟨a9, c9, e9, h9⟩ := SlAt.ofOwns (own_below' HROWM.out hV);injection e9 with e1 _ e3
    subst e1 e3;obtain ⟨b9, o9, e9, -, h9⟩ := h9.hat (by rw [hln]; omega);injection e9 with e9; injection e9 with e9 e10; subst e9 e10
    have := h9 j (by rw [hln]; exact hj);simpa using this
   have HCS := Hh hcs;have HZ := Hh (And.intro z0 (And.intro z1 z2));have HSV := Hh (show DlS g b L cap W3 from ⟨HV.out.lt (x := .g) rfl, c4⟩);have HM := Hh hm;have hk0 : (0 : Int) ≤ (K : Int) := by omega
   have hk1 : (K : Int) < (L : Int) := by omega
   have HCP := Hh hcp;have HB1 := Hh hb1;clear hrow hln z0 z1 z2 hcs hm hcp hb1;go_wp2_with fail;clear c4 t1 t1n t2 t2n;refine OpGZ (S := DlS g b L cap) 16 ?_;intro Y hdr;have hS : DlS g b L cap Y := HSV.out.below hdr;have HG4 := Hh (HV.out.below hdr);refine hTZ 0 105 hS ?_;refine hTZ 1 106 hS ?_;refine hTZ 5 110 hS ?_;refine hTZ 9 114 hS ?_;refine hTZ 2 107 hS ?_;refine hTZ 6 111 hS ?_;refine hTZ 3 108 hS ?_;refine hTZ 7 112 hS ?_;refine hTZ 4 109 hS ?_;refine hTZ 8 113 hS ?_;refine hTZ 10 115 hS ?_;have q0 : Y.cell? ⟨b, K * 3, none⟩ = some (.int .i64 m.f) := (HCS.out Y hdr _ (by omega)).trans HZ.out.1;have q1 : Y.cell? ⟨b, K * 3 + 1, none⟩ = some (.int .i64 m.t) := (HCS.out Y hdr _ (by omega)).trans HZ.out.2.1;have q2 : Y.cell? ⟨b, K * 3 + 2, none⟩ = some (.slice m.a m.b.length m.c) := (HCS.out Y hdr _ (by omega)).trans HZ.out.2.2;have HS9 := Hh hS;clear hS;refine Op1Z 11 ?_;go_simp;clear q0 q1 q2;refine ⟨HS9.out, ?_⟩;refine Op1Z 12 ?_;go_simp;obtain ⟨U, hU⟩ : ∃ U, U = Y.alloc (.cells #[.int .i64 m.f, .int .i64 m.t, .slice m.a m.b.length m.c] 99) := ⟨_, rfl⟩
   rw [← hU];have hbU : Below Y.heap.size Y U := by rw [hU]; exact (Below.refl _ _).alloc (Nat.le_refl _) _
   have hsU : U.heap.size = Y.heap.size + 1 := by rw [hU]; simp
   have HIU := Hh (show SlAt U U.heap.size 3 (some ⟨Y.heap.size, 0, none⟩) 1 1 [.int .i64 m.f, .int .i64 m.t, .slice m.a m.b.length m.c] by
    rw [hsU, hU];exact slAt_item Y #[.int .i64 m.f, .int .i64 m.t, .slice m.a m.b.length m.c] 99 3 rfl)
   have HLU := Hh (HG4.out.below hbU);have hbwU : Below W3.heap.size W3 U := hdr.trans (hbU.mono hdr.size);have HSU := Hh (HS9.out.below hbU);have hrow4 : U.ownsRow 0 99 3 (.slice (some ⟨b, 0, none⟩) L cap) L (M.ms.flatMap MMail.cells) := own_below' HROWM.out hbwU;clear hU;refine ⟨HSU.out, ?_⟩;refine Op1Z 13 ?_;refine wp_append_sl U (.tmp 109) (.tmp 117) 64 rfl 0 99 iM (.agg #[.int .i64 0, .int .i64 0, .slice none 0 0]) 3 40 Tryz.underlying64 jM jM0 jM1 jM2 rfl (by decide) (.slice (some ⟨b, 0, none⟩) L cap) L (M.ms.flatMap MMail.cells) rfl hrow4 U.heap.size (some ⟨Y.heap.size, 0, none⟩) 1 1 [.int .i64 m.f, .int .i64 m.t, .slice m.a m.b.length m.c] rfl HIU.out (by intro u hu; simp at hu; rcases hu with rfl | rfl | rfl <;> rfl) (by unfold maxLen; omega) (by omega) (Nat.zero_le _) ?_;intro a7 c7 W7 o7 g7 hat7;have hrv : rowV G M 4 = .slice (some ⟨b, 0, none⟩) L cap := by show Value.slice (M.ra 4) M.ms.length (M.rc 4) = _; rw [HB1.out, ← HLM.out, HCP.out]
   rw [← hrv] at g7 hat7;obtain ⟨p2, f2⟩ := HLU.out.cell1 (i := 4) (by omega) g7;have hadd := HLU.out.addMail m (HLU.out.ct.bb _ (List.mem_of_getElem? HM.out)) (by rw [← HLM.out]; exact o7) g7 (by rw [← HLM.out]; exact hat7);have hbl := HLU.out.grewBelow (i := 4) (by omega) g7 4 (.slice a7 (L + 1) c7);rw [hrv] at p2;have hS7 : DlS g b L cap W7 := ⟨Nat.lt_of_lt_of_le HSU.out.s g7.size, p2⟩
   refine ⟨hS7, ?_⟩;go_simp;refine hTZ 14 119 hS7 ?_;refine hTZ 15 120 hS7 ?_;refine OpL ?_;refine wp_store_cell 64 (.tmp 120) (.tmp 118) rfl g 4 (.slice a7 (L + 1) c7) _ rfl rfl rfl infoMails1 p2 f2 ?_;rw [← HLM.out] at hadd;obtain ⟨W8, hW8⟩ : ∃ W8, W8 = W7.setCell ⟨g, 4, none⟩ (.slice a7 (L + 1) c7) := ⟨_, rfl⟩
   rw [← hW8] at hadd hbl ⊢;have hmem : m.p ∈ G.bag := by
    rw [← H3.out.gr.ct.bq];exact List.mem_map_of_mem (List.mem_of_getElem? HM.out)
   have HF := Hh (show Rest W8 B g n (c + 7) (kk + 5) gh _ _ ci from ⟨(H3.out.si.twice hmem (by rw [← HLQ.out]; exact hl2)).up (by omega) (by omega), hadd, fun q hq => H3.out.em q hq⟩);have HFB := Hh (show Below B w W8 from (show Below B w W3 by rw [← HWO.out]; exact HBB.out).trans ((hbwU.mono HV.out.bs).trans hbl));clear hadd hbl hW8 hS7 p2 f2 o7 g7 hat7 hrow4 hbwU hbU hsU hdr hmem hrv;go_wp2_with fail
   ((try simp only [Exit.inBlock, Exit.then]); refine bodyPost_ret (results_none rfl _ _ _) rfl ?_)
   exact ⟨rfl, ⟨_, _, _, _, HF.out⟩, HFB.out⟩
  ·have HF := Hh (show Rest W3 B g n (c + 7) (kk + 5) gh G M ci from ⟨H3.out.si.up (by omega) (by omega), H3.out.gr, H3.out.em⟩);by_cases h0 : 0 < L
   ·have t1 : decide (0 < (L : Int)) = true := decide_eq_true (by omega);have t1n : decide (0 < L) = true := decide_eq_true h0;have t2 : decide ((L : Int) < 2000) = false := decide_eq_false (by omega);have t2n : decide (L < 2000) = false := decide_eq_false (by omega);clear hl h0;go_wp2_with fail
    ((try simp only [Exit.inBlock, Exit.then]); refine bodyPost_ret (results_none rfl _ _ _) rfl ?_)
    exact ⟨rfl, ⟨_, _, _, _, HF.out⟩, by rw [← HWO.out]; exact HBB.out⟩
   ·have t1 : decide (0 < (L : Int)) = false := decide_eq_false (by omega);have t1n : decide (0 < L) = false := decide_eq_false h0;clear hl h0;go_wp2_with fail
    ((try simp only [Exit.inBlock, Exit.then]); refine bodyPost_ret (results_none rfl _ _ _) rfl ?_)
    exact ⟨rfl, ⟨_, _, _, _, HF.out⟩, by rw [← HWO.out]; exact HBB.out⟩
 by_cases e4 : od = 4
 ·subst e4;clear c4 e0 e1 e2 e3;obtain ⟨R, p, N, hR, hq, hri, ho, hnw, hj, hca, hat, hgr⟩ := H3.out.get hIn;have hok := hri.ok;obtain ⟨b0, hb1, hb2, -⟩ := hgr.ptr hq;rw [hb1] at c0;have HGR := Hh hgr;have HR := Hh hR;have HQ := Hh hq;have HOK := Hh hok;have HNO := Hh (And.intro hnw ho);have hI0 : (0 : Int) ≤ (I : Int) := by omega
  have hI1 : (I : Int) < (n : Int) := by omega
  have HSV := Hh (show PrS g b0 n (M.rc 0) I p bx (.slice sa b.length sc) W3 from ⟨hgr.lt (x := .g) rfl, c0, hb2, by rw [cell_of_row _ _ 3 _ _ _ HROW3.out]; rfl⟩);have HBY := Hh (show BsAt W3 W3.heap.size sa b.length sc b from by
   have h9 := HBW3.out;rw [HWO.out] at h9;exact (HB.out.below h9 (Nat.le_refl _)).mono h9.size)
  obtain ⟨hcw, g', hsi⟩ := H3.out.si.propose (by omega) hR hbl;have HSI := Hh hsi;have HCW := Hh hcw;clear hR hq hri ho hnw hj hca hat hgr hok hb1 hb2 hcw hsi;go_wp2_with fail;refine OpGZ (S := PrS g b0 n (M.rc 0) I p bx (.slice sa b.length sc)) 9 ?_;intro Y hdr;have HGY := Hh (HGR.out.below hdr);have hS : PrS g b0 n (M.rc 0) I p bx (.slice sa b.length sc) Y := HSV.out.below hdr;refine hTZ 0 123 hS ?_;refine hTZ 4 127 hS ?_;refine hTZ 7 130 hS ?_;refine hTZ 1 124 hS ?_;refine hTZ 8 131 hS ?_;refine hTZ 2 125 hS ?_;refine hTZ 3 126 hS ?_;refine hTZ 5 128 hS ?_;refine hTZ 6 129 hS ?_;refine OpL ?_;go_simp;refine (raftPropose p R N sa sc b HOK.out.n1 HOK.out.n7 HOK.out.me0 HOK.out.men HOK.out.line HOK.out.xs (by rw [HNO.out.1]; simp) (by rw [HNO.out.2]; simp) _ ((HBY.out.below hdr (Nat.le_refl _)).mono hdr.size) (HGY.out.rf I R (p, N) HR.out HQ.out)).mono ?_;rintro e w5 ⟨rfl, N1, hr5, ht5⟩;have hg5 := HGY.out.putRaft HR.out HQ.out hr5 ht5;have HG5 := Hh hg5;have HB5 := Hh (HBB.out.trans ((hdr.mono HGR.out.bs).trans (ht5.below (fun k hk => HGR.out.inn (.raft I) k ⟨_, HQ.out, hk⟩) HGY.out.bs)));have hq5 : ({ M with ps := M.ps.set I (p, N1) } : GMem).ps[I]? = some (p, N1) := by
   show (M.ps.set I _)[I]? = _;rw [set_get (List.getElem?_eq_some_iff.1 HQ.out).1, if_pos rfl]
  clear hg5 hr5 ht5 c0 hS hdr;go_wp2_with fail;refine (l18coll HG5.out hq5 HCW.out).mono ?_;rintro e w6 ⟨rfl, M6, N6, hg6, hp6, hn6, hb6⟩;have HF := Hh (show Rest w6 B g n (c + 7) (kk + 5) g' _ M6 I from ⟨HSI.out.up (by omega) (by omega), hg6, fun q hq9 => by rw [hp6] at hq9; injection hq9 with hq9; subst hq9; exact hn6⟩);have HFB := Hh (HB5.out.trans hb6);clear hg6 hb6;go_wp2_with fail;go_end0;exact ⟨rfl, ⟨_, _, _, _, HF.out⟩, by rw [← HWO.out]; exact HFB.out⟩
 by_cases e5 : od = 5
 ·subst e5;clear c0 c4 e0 e1 e2 e3 e4;obtain ⟨R, p, N, hR, hq, hri, ho, hnw, hj, hca, hat, hgr⟩ := H3.out.get hIn;obtain ⟨hd, ns, hhd, hnt, hnl, hld, hsl⟩ := H3.out.si.load hR;obtain ⟨Rb, hRb⟩ : ∃ Rb, Rb = R.bare.base := ⟨_, rfl⟩
  rw [← hRb] at hld hsl;have hbase : R.line.base = Rb.line.base := by rw [hRb]; rfl
  rw [hbase] at hsl;have hrsl := H3.out.si.rsl;have hRb1 : (G.rs.set I Rb)[I]? = some Rb := by rw [set_get (by rw [hrsl]; exact hIn), if_pos rfl]
  obtain ⟨hrib, hob, hnwb, -, -, -⟩ := hsl.ri I Rb hRb1;obtain ⟨hcw, g', hsi⟩ := hsl.idle (by omega) hRb1;obtain ⟨mh, hmh, hmb⟩ : ∃ mh, M.hs[I]? = some mh ∧ mh.b = hd := by
   have h9 := hgr.ct.hq;have h8 : (M.hs.map MNote.b)[I]? = some hd := by rw [h9]; exact hhd
   rw [List.getElem?_map] at h8;cases h7 : M.hs[I]? with
   | none => rw [h7] at h8; cases h8
   | some mh => rw [h7] at h8; injection h8 with h8; exact ⟨mh, rfl, h8⟩
  obtain ⟨mt, hmt, hmn⟩ : ∃ mt, M.ts[I]? = some mt ∧ mt.ns.map MNote.b = ns := by
   have h9 := hgr.ct.tq;have h8 : (M.ts.map MNts.p)[I]? = some ns := by rw [h9]; exact hnt
   rw [List.getElem?_map] at h8;cases h7 : M.ts[I]? with
   | none => rw [h7] at h8; cases h8
   | some mt => rw [h7] at h8; injection h8 with h8; exact ⟨mt, rfl, h8⟩
  have hhl : M.hs.length = n := by have h9 := congrArg List.length hgr.ct.hq; rw [List.length_map] at h9; rw [h9]; exact H3.out.si.hdl
  have htl : M.ts.length = n := by have h9 := congrArg List.length hgr.ct.tq; rw [List.length_map] at h9; rw [h9]; exact H3.out.si.ntl
  have hal : G.ats.length = n := H3.out.si.atl;obtain ⟨q0, hq01, hq02, hq03, hq04, -⟩ := hgr.rowAt (j := 0) (by omega) rfl (k := I) (by show I < M.ps.length; rw [H3.out.pl]; exact hIn);obtain ⟨q1, hq11, hq12, hq13, -⟩ := hgr.rowAt (j := 1) (by omega) rfl (k := I) (by show I < M.hs.length; rw [hhl]; exact hIn);obtain ⟨q2, hq21, hq22, hq23, -⟩ := hgr.rowAt (j := 2) (by omega) rfl (k := I) (by show I < M.ts.length; rw [htl]; exact hIn);have e0' : rowN G M 0 = n := H3.out.pl;have e1' : rowN G M 1 = n := hhl;have e2' : rowN G M 2 = n := htl;rw [e0'] at hq02;rw [e1'] at hq12;rw [e2'] at hq22;have HSV := Hh (show LyS g n I q0 (M.rc 0) q1 (M.rc 1) q2 (M.rc 2) (.slice mh.a mh.b.length mh.c) (.slice mt.a mt.ns.length mt.c) W3 from ⟨hgr.lt (x := .g) rfl, hq02, hq12, by rw [hq13]; show (M.hs.map MNote.cell)[I]? = _; rw [List.getElem?_map, hmh]; rfl, hq22, by rw [hq23]; show (M.ts.map MNts.cell)[I]? = _; rw [List.getElem?_map, hmt]; rfl⟩);have HGR := Hh hgr;have HQ := Hh hq;have HLD := Hh hld;have HMB := Hh hmb;have HMN := Hh hmn;have HMH := Hh hmh;have HMT := Hh hmt;have HQ01 := Hh hq01;have HRIB := Hh hrib;have HNOB := Hh (And.intro hnwb hob);have HSI := Hh hsi;have HCW := Hh hcw;have HAL := Hh hal;have HPL := Hh (show M.ps.length = n from H3.out.pl);have hnl2 : mt.ns.length ≤ 1000000000 := by
   have h9 := congrArg List.length hmn;rw [List.length_map] at h9;omega
  have hI0 : (0 : Int) ≤ (I : Int) := by omega
  have hI1 : (I : Int) < (n : Int) := by omega
  clear hR hq hri ho hnw hj hca hat hgr hhd hnt hnl hld hsl hRb hbase hrsl hRb1 hrib hob hnwb hcw hsi hmh hmb hmt hmn hhl htl hal hq01 hq02 hq03 hq04 hq11 hq12 hq13 hq21 hq22 hq23 e0' e1' e2';go_wp2_with fail;refine OpG (S := LyS g n I q0 (M.rc 0) q1 (M.rc 1) q2 (M.rc 2) (.slice mh.a mh.b.length mh.c) (.slice mt.a mt.ns.length mt.c)) ?_;intro Y hdr;have H4 := Hh (HGR.out.below hdr);have hS : LyS g n I q0 (M.rc 0) q1 (M.rc 1) q2 (M.rc 2) (.slice mh.a mh.b.length mh.c) (.slice mt.a mt.ns.length mt.c) Y := HSV.out.below hdr;refine hT 0 136 hS ?_;refine hT 1 137 hS ?_;refine hT 6 142 hS ?_;refine hT 10 146 hS ?_;refine hT 13 149 hS ?_;refine hT 17 153 hS ?_;refine hT 2 138 hS ?_;refine hT 7 143 hS ?_;refine hT 14 150 hS ?_;refine hT 3 139 hS ?_;refine hT 8 144 hS ?_;refine hT 15 151 hS ?_;refine hT 4 140 hS ?_;refine hT 9 145 hS ?_;refine hT 16 152 hS ?_;refine hT 5 141 hS ?_;refine hT 11 147 hS ?_;refine hT 18 154 hS ?_;refine hT 12 148 hS ?_;refine hT 19 155 hS ?_;have HSX := Hh hS;clear hS;have hbh := H4.out.ct.hb mh (List.mem_of_getElem? HMH.out);have hsn : SlAt Y Y.heap.size 1 mt.a mt.ns.length mt.c (mt.ns.map MNote.cell) := by
   obtain ⟨a9, c9, e9, h9⟩ := SlAt.ofOwns (H4.out.ct.tr mt (List.mem_of_getElem? HMT.out));injection e9 with e1 _ e3
   subst e1 e3;exact h9
  have hbn := H4.out.ct.tb mt (List.mem_of_getElem? HMT.out);refine Op1 20 ?_;go_simp;refine (raftLoad I n (by omega) (by omega) (by omega) (by omega) mh.b mh.a mh.c mt.ns mt.a mt.c hnl2 _ hbh.1 hsn (fun m hm => (hbn m hm).1)).mono ?_;intro e w5 h5;unfold LdTo at h5;rw [HMB.out, HMN.out, HLD.out] at h5;obtain ⟨hb5, p', N', rfl, hr5, hf5⟩ := h5;have hS5 := HSX.out.below hb5;have H5 := Hh (H4.out.below hb5);have HR5 := Hh hr5;have HF5 := Hh hf5;have HB5 := Hh (HBB.out.trans ((hdr.trans (hb5.mono hdr.size)).mono HGR.out.bs));have HN5 := Hh (show N'.ps = [] by
   have h9 := hr5.po.q;rw [HNOB.out.2] at h9;exact List.map_eq_nil_iff.1 h9)
  refine ⟨hS5, ?_⟩;refine hT 21 135 hS5 ?_;refine hT 22 157 hS5 ?_;refine hT 23 158 hS5 ?_;refine hT 24 7 hS5 ?_;refine hT 25 8 hS5 ?_;refine OpE ?_;have HS5 := Hh hS5;clear hS5 hb5 hr5 hf5 hbh hsn hbn hdr;obtain ⟨s0, hs01, c0, cp, fp, -⟩ := H5.out.rowAt (j := 0) (by omega) rfl (k := I) (by show I < M.ps.length; rw [HPL.out]; exact hIn);have hqs : s0 = q0 := by
   rw [HQ01.out] at hs01; injection hs01 with e; injection e with e; exact e.symm
  subst hqs;have e0' : rowN G M 0 = n := HPL.out;rw [e0'] at c0;obtain ⟨V, hV⟩ : ∃ V, V = w5.setCell ⟨s0, I, none⟩ (.pointer (some ⟨p', 0, none⟩)) := ⟨_, rfl⟩
  have hg6 := H5.out.setPtr (i := I) (b := s0) (cap := M.rc 0) (by rw [HPL.out]; exact hIn) (by show Value.slice (M.ra 0) M.ps.length (M.rc 0) = _; rw [hs01]) HR5.out HN5.out (fun k hk => H4.out.free (HF5.out k hk));rw [← hV] at hg6;have hq6 : (M.ps.set I (p', N'))[I]? = some (p', N') := by rw [set_get (by rw [HPL.out]; exact hIn), if_pos rfl]
  have HG6 := Hh hg6;have HB6 := Hh (show Below B wo V from HB5.out.trans (by rw [hV]; exact below_set (H5.out.inn (.row 0) s0 ⟨by omega, by rw [hs01]; rfl⟩) _));have HV := Hh hV;replace cp : w5.cell? ⟨s0, I, none⟩ = some (.pointer (some ⟨p, 0, none⟩)) := by
   rw [cp]; show (M.ps.map ptrOf)[I]? = _; rw [List.getElem?_map, HQ.out]; rfl
  have hRb2 : (G.rs.set I Rb)[I]? = some Rb := by rw [set_get (by rw [← H3.out.gr.rl, HPL.out]; exact hIn), if_pos rfl]
  have HRB := Hh hRb2;clear hg6 hV hs01 e0' hRb2;go_wp2_with fail;rw [← HV.out];refine (raftLine HRIB.out.ok.line (HG6.out.rf I Rb (p', N') HRB.out hq6)).mono ?_;rintro e w7 ⟨q7, la7, lc7, rfl, hln7, hb7, hq7⟩;have HLN := Hh hln7;have H7 := Hh (HG6.out.below hb7);have HB7 := Hh (HB6.out.trans (hb7.mono HG6.out.bs));clear hln7 hb7 c0 cp fp;go_wp2_with fail;refine (lineBase _ q7 Rb.line la7 lc7 N'.ms _ HLN.out).mono ?_;rintro e w8 ⟨rfl, m8, hm8⟩;have hb8 : Below w7.heap.size w7 w8 := by rw [hm8]; exact below_drewN w7 m8
  have H8 := Hh (H7.out.below hb8);have HB8 := Hh (HB7.out.trans (hb8.mono H7.out.bs));obtain ⟨s3, hs31, c3, k3, f3, -⟩ := H8.out.rowAt (j := 3) (by omega) rfl (k := I) (by show I < G.ats.length; rw [HAL.out]; exact hIn);obtain ⟨a3, ha3⟩ : ∃ a3, G.ats[I]? = some a3 := ⟨_, List.getElem?_eq_getElem (by rw [HAL.out]; exact hIn)⟩
  replace k3 : w8.cell? ⟨s3, I, none⟩ = some (.int .i64 a3) := by
   rw [k3]; show (G.ats.map iz)[I]? = _; rw [List.getElem?_map, ha3]; rfl
  replace c3 : w8.cell? ⟨g, 3, none⟩ = some (.slice (some ⟨s3, 0, none⟩) n (M.rc 3)) := by rw [← HAL.out]; exact c3
  obtain ⟨V9, hV9⟩ : ∃ V9, V9 = w8.setCell ⟨s3, I, none⟩ (.int .i64 Rb.line.base) := ⟨_, rfl⟩
  have hg9 := H8.out.setAt (i := I) (b := s3) (cap := M.rc 3) (by show I < G.ats.length; rw [HAL.out]; exact hIn) (by show Value.slice (M.ra 3) G.ats.length (M.rc 3) = _; rw [show M.ra 3 = some ⟨s3, 0, none⟩ from hs31]) Rb.line.base;have hiz : iz Rb.line.base = .int .i64 Rb.line.base := rfl;rw [hiz, ← hV9] at hg9;have HG9 := Hh hg9;have HB9 := Hh (show Below B wo V9 from HB8.out.trans (by rw [hV9]; exact below_set (H8.out.inn (.row 3) s3 ⟨by omega, by show (M.ra 3).map (·.block) = _; rw [show M.ra 3 = some ⟨s3, 0, none⟩ from hs31]; rfl⟩) _));have HV9 := Hh hV9;clear hb8 hm8 hg9 hV9 hs31 hiz;go_wp2_with fail;rw [← HV9.out];refine (l18coll HG9.out hq6 HCW.out).mono ?_;rintro e w10 ⟨rfl, M6, N6, hg6, hp6, hn6, hb6⟩;have HF := Hh (show Rest w10 B g n (c + 7) (kk + 5) g' _ M6 I from ⟨HSI.out.up (by omega) (by omega), hg6, fun q hq9 => by rw [hp6] at hq9; injection hq9 with hq9; subst hq9; exact hn6⟩);have HFB := Hh (HB9.out.trans hb6);clear hg6 hb6;go_wp2_with fail;go_end0;exact ⟨rfl, ⟨_, _, _, _, HF.out⟩, by rw [← HWO.out]; exact HFB.out⟩
 by_cases e6 : od = 6
 ·subst e6;clear c0 c4 e0 e1 e2 e3 e4 e5;obtain ⟨R, p, N, hR, hq, hri, ho, hnw, hj, hca, hat, hgr⟩ := H3.out.get hIn;obtain ⟨hcw0, g0, hsi0⟩ := H3.out.si.idle (by omega) hR;obtain ⟨a, ha⟩ : ∃ a : Nat, a = R.applied.toNat := ⟨_, rfl⟩
  have hap : R.applied = (a : Int) := by
   have h1 := hri.ok.ap0;have h2 := hri.ok.line.b0;omega
  have ha2 : a ≤ 10000 := by
   have h1 := hcw0.ap;have h2 := hcw0.sl;omega
  rw [hap] at hat;have hpl := H3.out.pl;have hal : G.ats.length = n := H3.out.si.atl;obtain ⟨q0, hq01, hq02, hq03, -⟩ := hgr.rowAt (j := 0) (by omega) rfl (k := I) (by show I < M.ps.length; rw [hpl]; exact hIn);obtain ⟨q3, hq31, hq32, hq33, -⟩ := hgr.rowAt (j := 3) (by omega) rfl (k := I) (by show I < G.ats.length; rw [hal]; exact hIn);have e0' : rowN G M 0 = n := hpl;have e3' : rowN G M 3 = n := hal;rw [e0'] at hq02;rw [e3'] at hq32;have HSV := Hh (show CyS g n I q0 (M.rc 0) p q3 (M.rc 3) a W3 from ⟨hgr.lt (x := .g) rfl, hq02, by rw [hq03]; show (M.ps.map ptrOf)[I]? = _; rw [List.getElem?_map, hq]; rfl, hq32, by rw [hq33]; show (G.ats.map iz)[I]? = _; rw [List.getElem?_map, hat]; rfl⟩);have hI0 : (0 : Int) ≤ (I : Int) := by omega
  have hI1 : (I : Int) < (n : Int) := by omega
  have HGR := Hh hgr;have HR := Hh hR;have HQ := Hh hq;have HOK := Hh hri.ok;have HCW0 := Hh hcw0;have HSI0 := Hh hsi0;have HA := Hh ha;clear hR hq hri ho hnw hj hca hat hgr hcw0 hsi0 hap ha hq01 hq02 hq03 hq31 hq32 hq33 e0' e3' hpl hal;go_wp2_with fail;obtain ⟨X, hX⟩ : ∃ X : Nat, X = a / 256 := ⟨_, rfl⟩
  obtain ⟨Y, hY⟩ : ∃ Y : Nat, Y = a % 256 := ⟨_, rfl⟩
  have tq : ((a : Int)).tdiv 256 = (X : Int) := by rw [hX]; rfl
  have w1 : IntKind.i64.wrap (X : Int) = (X : Int) := IntWalk.i64_in _ (by omega);have u1 : IntKind.u8.wrap (X : Int) = (X : Int) := IntWalk.u8_in _ (by omega);have u2 : IntKind.u8.wrap (a : Int) = (Y : Int) := by rw [IntKind.wrap_u8]; omega
  have tq2 : (a : Int) / 256 = (X : Int) := by rw [hX]; rfl
  have tq3 : (a : Int) % 256 = (Y : Int) := by rw [hY]; rfl
  have HX := Hh hX;have HY := Hh hY;clear hX hY;refine OpGZ (S := CyS g n I q0 (M.rc 0) p q3 (M.rc 3) a) 25 ?_;intro W4 hdr;have H4 := Hh (HGR.out.below hdr);have hS : CyS g n I q0 (M.rc 0) p q3 (M.rc 3) a W4 := HSV.out.below hdr;refine hTZ 0 186 hS ?_;refine hTZ 4 190 hS ?_;refine hTZ 7 193 hS ?_;refine hTZ 11 197 hS ?_;refine hTZ 16 202 hS ?_;refine hTZ 20 206 hS ?_;refine hTZ 1 187 hS ?_;refine hTZ 8 194 hS ?_;refine hTZ 17 203 hS ?_;refine hTZ 2 188 hS ?_;refine hTZ 9 195 hS ?_;refine hTZ 18 204 hS ?_;refine hTZ 3 189 hS ?_;refine hTZ 10 196 hS ?_;refine hTZ 19 205 hS ?_;refine hTZ 5 191 hS ?_;refine hTZ 12 198 hS ?_;refine hTZ 21 207 hS ?_;refine hTZ 6 192 hS ?_;refine hTZ 13 199 hS ?_;refine hTZ 22 208 hS ?_;refine hVZ 14 200 (.int .i64 X) hS ?_;refine hVZ 23 209 (.int .u8 Y) hS ?_;refine hVZ 15 201 (.int .u8 X) hS ?_;have HSX := Hh hS;clear hS;obtain ⟨U, hU⟩ : ∃ U, U = W4.alloc (.cells #[.int .u8 X, .int .u8 Y] 5) := ⟨_, rfl⟩
  have hbU : Below W4.heap.size W4 U := by rw [hU]; exact (Below.refl _ _).alloc (Nat.le_refl _) _
  have hbs : BsAt U U.heap.size (some ⟨W4.heap.size, 0, none⟩) 2 2 (stOf a) := by
   have e : (stOf a).map bv = [.int .u8 X, .int .u8 Y] := by
    have hX := HX.out;have hY := HY.out;unfold stOf;simp only [List.map_cons, List.map_nil, bv, UInt8.toNat_ofNat']
    congr 2
    ·omega
    ·congr 2; omega
   have h9 := slAt_new W4 [.int .u8 X, .int .u8 Y] 5 (by unfold maxLen; simp);have hs : U.heap.size = W4.heap.size + 1 := by rw [hU]; simp
   refine BsAt.ofSl ?_ (by omega);rw [e, hs, hU];exact h9
  have HBSU := Hh hbs;have HUO := Hh (H4.out.below hbU);have HSU := Hh (HSX.out.below hbU);have HBU := Hh (HBB.out.trans ((hdr.trans (hbU.mono hdr.size)).mono HGR.out.bs));have HW4 := Hh (show ¬ N.own p W4.heap.size from fun hk => by
   have h9 := H4.out.lt (x := .raft I) (k := W4.heap.size) ⟨_, HQ.out, hk⟩;omega)
  have HU := Hh hU;clear hbU hbs hU hdr;refine Op1Z 24 ?_;go_simp;rw [← HU.out];refine ⟨HSU.out, ?_⟩;refine OpL ?_;go_simp;refine (raftCompact p R N (stOf a) (some ⟨W4.heap.size, 0, none⟩) 2 HOK.out _ HBSU.out (fun _ ad had hk => by injection had with had; subst had; exact HW4.out hk) (HUO.out.rf I R (p, N) HR.out HQ.out)).mono ?_;rintro e w5 ⟨rfl, N1, hr5, ht5⟩;obtain ⟨R', hR'⟩ : ∃ R', R' = (R.compact (stOf a)).1 := ⟨_, rfl⟩
  rw [← hR'] at hr5;have hg5 := HUO.out.putRaft HR.out HQ.out hr5 ht5;have HB5 := Hh (HBU.out.trans (ht5.below (fun k hk => HUO.out.inn (.raft I) k ⟨_, HQ.out, hk⟩) HUO.out.bs));have hq5 : (M.ps.set I (p, N1))[I]? = some (p, N1) := by rw [set_get (List.getElem?_eq_some_iff.1 HQ.out).1, if_pos rfl]
  obtain ⟨M5, hM5⟩ : ∃ M5 : GMem, M5 = { M with ps := M.ps.set I (p, N1) } := ⟨_, rfl⟩
  have HQ5 := Hh (show M5.ps[I]? = some (p, N1) by rw [hM5]; exact hq5);rw [← hM5] at hg5;have HG5 := Hh hg5;have HM5 := Hh (show M5.hs = M.hs ∧ M5.ts = M.ts by rw [hM5]; exact ⟨rfl, rfl⟩);have HRQ := Hh hR';clear hg5 hr5 ht5 hq5 hM5 hR' tq tq2 tq3 w1 u1 u2;obtain ⟨y, hy⟩ : ∃ y, y = (R.compact (stOf a)).2 := ⟨_, rfl⟩
  rw [← hy];cases y with
  | false =>
   have hRR : R' = R := by
    rw [HRQ.out];have h9 := hy;unfold PRaft.compact at h9 ⊢;split
    ·rfl
    ·rename_i h8; rw [if_neg h8] at h9; cases h9
   have HG6 := Hh (show GrAt w5 B g I G M5 by
    have h9 := HG5.out;rw [hRR, set_self HR.out] at h9;exact h9)
   clear hy hRR;go_wp2_with fail;refine (l18coll HG6.out HQ5.out HCW0.out).mono ?_;rintro e w6 ⟨rfl, M6, N6, hg6, hp6, hn6, hb6⟩;have HF := Hh (show Rest w6 B g n (c + 7) (kk + 5) g0 _ M6 I from ⟨HSI0.out.up (by omega) (by omega), hg6, fun q hq9 => by rw [hp6] at hq9; injection hq9 with hq9; subst hq9; exact hn6⟩);have HFB := Hh (HB5.out.trans hb6);clear hg6 hb6;go_wp2_with fail;go_end0;exact ⟨rfl, ⟨_, _, _, _, HF.out⟩, by rw [← HWO.out]; exact HFB.out⟩
  | true =>
   obtain ⟨hput, hsl, hsc⟩ := H3.out.si.compact (by omega) HR.out (by rw [← HA.out]; exact hy.symm);rw [← HA.out, ← HRQ.out] at hput hsl hsc;have hil : I < G.rs.length := by rw [H3.out.si.rsl]; exact hIn
   have hR1 : (G.rs.set I R')[I]? = some R' := by rw [set_get hil, if_pos rfl]
   have hok5 := (hsc.ri I R' hR1).1.ok;obtain ⟨hcw, g', hsi⟩ := hsc.idle (by omega) hR1;have HSI := Hh hsi;have HCW := Hh hcw;have hhl : M5.hs.length = n := by rw [HM5.out.1]; have h9 := congrArg List.length H3.out.gr.ct.hq; rw [List.length_map] at h9; rw [h9]; exact H3.out.si.hdl
   have htl : M5.ts.length = n := by rw [HM5.out.2]; have h9 := congrArg List.length H3.out.gr.ct.tq; rw [List.length_map] at h9; rw [h9]; exact H3.out.si.ntl
   have hpl : M5.ps.length = n := by rw [HG5.out.rl]; show (G.rs.set I R').length = n; rw [List.length_set]; exact H3.out.si.rsl
   obtain ⟨r0, hr01, c0, cp, -, -⟩ := HG5.out.rowAt (j := 0) (by omega) rfl (k := I) (by show I < M5.ps.length; rw [hpl]; exact hIn);obtain ⟨r1, hr11, c1, -, -, -⟩ := HG5.out.rowAt (j := 1) (by omega) rfl (k := I) (by show I < M5.hs.length; rw [hhl]; exact hIn);replace c0 : w5.cell? ⟨g, 0, none⟩ = some (.slice (some ⟨r0, 0, none⟩) n (M5.rc 0)) := by rw [← hpl]; exact c0
   replace c1 : w5.cell? ⟨g, 1, none⟩ = some (.slice (some ⟨r1, 0, none⟩) n (M5.rc 1)) := by rw [← hhl]; exact c1
   replace cp : w5.cell? ⟨r0, I, none⟩ = some (.pointer (some ⟨p, 0, none⟩)) := by
    rw [cp]; show (M5.ps.map ptrOf)[I]? = _; rw [List.getElem?_map, HQ5.out]; rfl
   have HS5 := Hh (show HyS g n I r0 (M5.rc 0) p r1 (M5.rc 1) w5 from ⟨HG5.out.lt (x := .g) rfl, c0, cp, c1⟩);have HR11 := Hh hr11;have HHL := Hh hhl;have HTL := Hh htl;have HOK5 := Hh hok5;have HRS := Hh hR1;clear hy hsc hil hok5 hcw hsi hpl hhl htl hr01 hr11 c0 c1 cp hR1;go_wp2_with fail;refine OpGZ (S := HyS g n I r0 (M5.rc 0) p r1 (M5.rc 1)) 14 ?_;intro w6 hdr;have HG6 := Hh (HG5.out.below hdr);have hS : HyS g n I r0 (M5.rc 0) p r1 (M5.rc 1) w6 := HS5.out.below hdr;refine hTZ 0 212 hS ?_;refine hTZ 4 216 hS ?_;refine hTZ 5 217 hS ?_;refine hTZ 9 221 hS ?_;refine hTZ 1 213 hS ?_;refine hTZ 6 218 hS ?_;refine hTZ 2 214 hS ?_;refine hTZ 7 219 hS ?_;refine hTZ 3 215 hS ?_;refine hTZ 8 220 hS ?_;refine hTZ 10 222 hS ?_;refine hTZ 11 223 hS ?_;have HSX6 := Hh hS;clear hS;refine Op1Z 12 ?_;go_simp;refine (raftHead p R' N1 HOK5.out.bt0 HOK5.out.bt1 HOK5.out.bf0 HOK5.out.bf1 HOK5.out.line hput hsl _ (HG6.out.rf I R' (p, N1) HRS.out HQ5.out)).mono ?_;rintro e w7 ⟨ha7, hc7, rfl, hby7, hb7, -⟩;have hS7 := HSX6.out.below hb7;have H7 := Hh (HG6.out.below hb7);have HB7 := Hh (HB5.out.trans ((hdr.trans (hb7.mono hdr.size)).mono HG5.out.bs));obtain ⟨s1, hs11, -, k1, f1, -⟩ := H7.out.rowAt (j := 1) (by omega) rfl (k := I) (by show I < M5.hs.length; rw [HHL.out]; exact hIn);have hse : s1 = r1 := by
    rw [HR11.out] at hs11; injection hs11 with e; injection e with e; exact e.symm
   subst hse;obtain ⟨mh, hmh⟩ : ∃ mh, M5.hs[I]? = some mh := ⟨_, List.getElem?_eq_getElem (by rw [HHL.out]; exact hIn)⟩
   replace k1 : w7.cell? ⟨s1, I, none⟩ = some mh.cell := by rw [k1]; show (M5.hs.map MNote.cell)[I]? = _; rw [List.getElem?_map, hmh]; rfl
   refine ⟨hS7, ?_⟩;refine hTZ 13 225 hS7 ?_;refine OpL ?_;refine wp_store_cell 27 (.tmp 225) (.tmp 224) rfl s1 I (.slice ha7 R'.head.length hc7) _ rfl rfl rfl infoBytes1 k1 f1 ?_;have hg8 := H7.out.setHead (i := I) (b := s1) (cap := M5.rc 1) (by rw [HHL.out]; exact hIn) (by show Value.slice (M5.ra 1) M5.hs.length (M5.rc 1) = _; rw [hs11]) ⟨ha7, hc7, R'.head⟩ hby7;have hcl8 : MNote.cell ⟨ha7, hc7, R'.head⟩ = .slice ha7 R'.head.length hc7 := rfl;rw [hcl8] at hg8;obtain ⟨V8, hV8⟩ : ∃ V8, V8 = w7.setCell ⟨s1, I, none⟩ (.slice ha7 R'.head.length hc7) := ⟨_, rfl⟩
   rw [← hV8] at hg8 ⊢;obtain ⟨M8, hM8⟩ : ∃ M8 : GMem, M8 = { M5 with hs := M5.hs.set I ⟨ha7, hc7, R'.head⟩ } := ⟨_, rfl⟩
   rw [← hM8] at hg8;have HG8 := Hh hg8;have HQ8 := Hh (show M8.ps[I]? = some (p, N1) by rw [hM8]; exact HQ5.out);have HB8 := Hh (show Below B wo V8 from HB7.out.trans (by rw [hV8]; exact below_set (H7.out.inn (.row 1) s1 ⟨by omega, by rw [hs11]; rfl⟩) _));have HT8 := Hh (show M8.ts.length = n by rw [hM8]; exact HTL.out);clear hg8 hS7 hV8 hM8 hb7 hdr hby7 hs11 k1 f1 hmh;obtain ⟨s2, hs21, c2, k2, f2, -⟩ := HG8.out.rowAt (j := 2) (by omega) rfl (k := I) (by show I < M8.ts.length; rw [HT8.out]; exact hIn);obtain ⟨mt, hmt⟩ : ∃ mt, M8.ts[I]? = some mt := ⟨_, List.getElem?_eq_getElem (by rw [HT8.out]; exact hIn)⟩
   replace k2 : V8.cell? ⟨s2, I, none⟩ = some mt.cell := by rw [k2]; show (M8.ts.map MNts.cell)[I]? = _; rw [List.getElem?_map, hmt]; rfl
   replace c2 : V8.cell? ⟨g, 2, none⟩ = some (.slice (some ⟨s2, 0, none⟩) n (M8.rc 2)) := by rw [← HT8.out]; exact c2
   obtain ⟨V9, hV9⟩ : ∃ V9, V9 = V8.setCell ⟨s2, I, none⟩ (.slice none 0 0) := ⟨_, rfl⟩
   have hg9 := HG8.out.setNotes (i := I) (b := s2) (cap := M8.rc 2) (by rw [HT8.out]; exact hIn) (by show Value.slice (M8.ra 2) M8.ts.length (M8.rc 2) = _; rw [hs21]) ⟨none, 0, []⟩ ⟨rfl, .inl ⟨rfl, rfl⟩⟩ (fun m hm => by cases hm) (fun k hk => by cases hk);have hcl9 : MNts.cell ⟨none, 0, []⟩ = .slice none 0 0 := rfl;rw [hcl9, ← hV9] at hg9;have HG9 := Hh hg9;have HB9 := Hh (show Below B wo V9 from HB8.out.trans (by rw [hV9]; exact below_set (HG8.out.inn (.row 2) s2 ⟨by omega, by rw [hs21]; rfl⟩) _));have HV9 := Hh hV9;clear hg9 hV9 hs21 hmt;go_wp2_with fail;rw [← HV9.out];refine (l18coll HG9.out HQ8.out HCW.out).mono ?_;rintro e w10 ⟨rfl, M6, N6, hg6, hp6, hn6, hb6⟩;have HF := Hh (show Rest w10 B g n (c + 7) (kk + 5) g' _ M6 I from ⟨HSI.out.up (by omega) (by omega), hg6, fun q hq9 => by rw [hp6] at hq9; injection hq9 with hq9; subst hq9; exact hn6⟩);have HFB := Hh (HB9.out.trans hb6);clear hg6 hb6;go_wp2_with fail;go_end0;exact ⟨rfl, ⟨_, _, _, _, HF.out⟩, by rw [← HWO.out]; exact HFB.out⟩
 by_cases e7 : od = 7
 ·subst e7;clear c4 e0 e1 e2 e3 e4 e5 e6;obtain ⟨R, p, N, hR, hq, hri, ho, hnw, hj, hca, hat, hgr⟩ := H3.out.get hIn;have hok := hri.ok;obtain ⟨b0, hb1, hb2, -⟩ := hgr.ptr hq;rw [hb1] at c0;have HGR := Hh hgr;have HR := Hh hR;have HQ := Hh hq;have HOK := Hh hok;have HNO := Hh (And.intro hnw ho);have hI0 : (0 : Int) ≤ (I : Int) := by omega
  have hI1 : (I : Int) < (n : Int) := by omega
  clear hR hq hri ho hnw hj hca hat hgr hok hb1;go_wp2_with fail;refine (raftTick p R N HOK.out.n1 HOK.out.n7 HOK.out.me0 HOK.out.men HOK.out.bt0 HOK.out.bt1 HOK.out.line HOK.out.xs HOK.out.tk0 (by have := HOK.out.tk1; omega) (by rw [HNO.out.1]; simp) (by rw [HNO.out.2]; simp) _ (HGR.out.rf I R (p, N) HR.out HQ.out)).mono ?_;rintro e w5 ⟨rfl, N1, hr5, ht5⟩;have hg5 := HGR.out.putRaft HR.out HQ.out hr5 ht5;have HG5 := Hh hg5;have HB5 := Hh (HBB.out.trans (ht5.below (fun k hk => HGR.out.inn (.raft I) k ⟨_, HQ.out, hk⟩) HGR.out.bs));have hq5 : ({ M with ps := M.ps.set I (p, N1) } : GMem).ps[I]? = some (p, N1) := by
   show (M.ps.set I _)[I]? = _;rw [set_get (List.getElem?_eq_some_iff.1 HQ.out).1, if_pos rfl]
  obtain ⟨hcw, g', hsi⟩ := H3.out.si.tick (by omega) HR.out;have HSI := Hh hsi;have HCW := Hh hcw;clear hg5 hr5 ht5 hcw hsi c0 hb2;go_wp2_with fail;refine (l18coll HG5.out hq5 HCW.out).mono ?_;rintro e w6 ⟨rfl, M6, N6, hg6, hp6, hn6, hb6⟩;have HF := Hh (show Rest w6 B g n (c + 7) (kk + 5) g' _ M6 I from ⟨HSI.out.up (by omega) (by omega), hg6, fun q hq9 => by rw [hp6] at hq9; injection hq9 with hq9; subst hq9; exact hn6⟩);have HFB := Hh (HB5.out.trans hb6);clear hg6 hb6;go_wp2_with fail;go_end0;exact ⟨rfl, ⟨_, _, _, _, HF.out⟩, by rw [← HWO.out]; exact HFB.out⟩
 ·have f0 : (od == 0) = false := by simpa using e0
  have f1 : (od == 1) = false := by simpa using e1
  have f2 : (od == 2) = false := by simpa using e2
  have f3 : (od == 3) = false := by simpa using e3
  have f4 : (od == 4) = false := by simpa using e4
  have f5 : (od == 5) = false := by simpa using e5
  have f6 : (od == 6) = false := by simpa using e6
  have f7 : (od == 7) = false := by simpa using e7
  clear c0 c4 e0 e1 e2 e3 e4 e5 e6 e7;obtain ⟨R, p, N, hR, hq, hri, ho, hnw, hj, hca, hat, hgr⟩ := H3.out.get hIn;obtain ⟨hcw, g', hsi⟩ := H3.out.si.idle (by omega) hR;have HGR := Hh hgr;have HQ := Hh hq;have HSI := Hh hsi;have HCW := Hh hcw;clear hR hq hri ho hnw hj hca hat hgr hcw hsi;go_wp2_with fail;refine (l18coll HGR.out HQ.out HCW.out).mono ?_;rintro e w6 ⟨rfl, M6, N6, hg6, hp6, hn6, hb6⟩;have HF := Hh (show Rest w6 B g n (c + 7) (kk + 5) g' _ M6 I from ⟨HSI.out.up (by omega) (by omega), hg6, fun q hq9 => by rw [hp6] at hq9; injection hq9 with hq9; subst hq9; exact hn6⟩);have HFB := Hh (HBB.out.trans hb6);clear hg6 hb6;go_wp2_with fail;go_end0;exact ⟨rfl, ⟨_, _, _, _, HF.out⟩, by rw [← HWO.out]; exact HFB.out⟩
end
end Go.Proofs.YtogcnfhmcpkdcaaGreat
