/-
  Walks of a group: what is read (term).
  Walks of a group: how it is made.
  Walks of a group: who leads (leads).
-/
import Derived.Test.YtogcnfhmcpkdcaaGreatGrM
import Derived.Test.YtogcnfhmcpkdcaaGreatRaftNA
import Derived.Test.YtogcnfhmcpkdcaaGreatLine9
import Derived.Test.YtogcnfhmcpkdcaaGreatLineM8
namespace Go.Proofs.YtogcnfhmcpkdcaaGreat
open Go.RowKit
set_option linter.unusedVariables false
set_option linter.unusedSimpArgs false
section
variable {w w' : World} {B g c : Nat} {G : PGroup} {M : GMem}
theorem GrAt.cl (h : GrAt w B g c G M) {i : Nat} (hi : i < 8) : w.cell? ⟨g, i, none⟩ = some (rowV G M i) := by
 rw [cell_of_row _ _ i _ _ _ h.row];have e : i = 0 ∨ i = 1 ∨ i = 2 ∨ i = 3 ∨ i = 4 ∨ i = 5 ∨ i = 6 ∨ i = 7 := by omega
 rcases e with rfl | rfl | rfl | rfl | rfl | rfl | rfl | rfl <;> rfl
theorem GrAt.cr (h : GrAt w B g c G M) : w.cell? ⟨g, 8, none⟩ = some (.bool G.right) := by
 rw [cell_of_row _ _ 8 _ _ _ h.row]; rfl
theorem GrAt.f (h : GrAt w B g c G M) (i : Nat) : w.frozen? ⟨g, i, none⟩ = false := frozen_of_row _ _ _ _ _ h.row
theorem GrAt.at_ (h : GrAt w B g c G M) {i : Nat} (hi : i < 8) {j : Nat} (hj : j < rowN G M i * rowZ i) : ∃ b, M.ra i = some ⟨b, 0, none⟩ ∧ w.cell? ⟨b, j, none⟩ = (rowX G M i)[j]? ∧ w.frozen? ⟨b, j, none⟩ = false ∧ b < w.heap.size := by
 have hp : 0 < rowN G M i := by
  rcases Nat.eq_zero_or_pos (rowN G M i) with h0 | h0
  ·rw [h0] at hj; simp at hj
  ·exact h0
 obtain ⟨b, cap, hv⟩ := rowForm h hi hp;have h1 := h.rows i hi;rw [hv] at h1;refine ⟨b, ?_, h1.cellAt j hj, h1.frozenAt j, (own_lt h1 rfl).2⟩;unfold rowV at hv;injection hv with e1
theorem GrAt.ptr (h : GrAt w B g c G M) {i : Nat} {q : Nat × RMem} (hq : M.ps[i]? = some q) : ∃ b, M.ra 0 = some ⟨b, 0, none⟩ ∧ w.cell? ⟨b, i, none⟩ = some (.pointer (some ⟨q.1, 0, none⟩)) ∧ b < w.heap.size := by
 have hi := (List.getElem?_eq_some_iff.1 hq).1;obtain ⟨b, h1, h2, _, h3⟩ := h.at_ (i := 0) (by omega) (j := i) (by show i < M.ps.length * 1; omega);refine ⟨b, h1, ?_, h3⟩;rw [h2];show (M.ps.map ptrOf)[i]? = _;rw [List.getElem?_map, hq]; rfl
def maxBt : List PRaft → Int → Int
 | [], t => t
 | R :: l, t => maxBt l (max t R.bt)
def PGroup.term (G : PGroup) : Int := maxBt G.rs 0
theorem maxBt_snoc (l : List PRaft) (R : PRaft) (t : Int) : maxBt (l ++ [R]) t = max (maxBt l t) R.bt := by
 induction l generalizing t with
 | nil => rfl
 | cons x l ih => exact ih _
set_option maxHeartbeats 1000000 in
theorem l18term (h : GrAt w B g c G M) (hn : M.ps.length ≤ 7) : Calls Tryz.prog 61 #[.pointer (some ⟨g, 0, none⟩)] w fun e w' => e = .returned (.int .i64 G.term) ∧ w' = w := by
 have c0 : w.cell? ⟨g, 0, none⟩ = some (.slice (M.ra 0) M.ps.length (M.rc 0)) := h.cl (i := 0) (by omega);have H := Hh h;clear h;go_enter Tryz.func61, Tryz.ntmps61
 go_wp2_with fail;obtain ⟨wo, hwo⟩ : ∃ wo : World, wo = w := ⟨_, rfl⟩
 go_loopw [3, 4] (fun tv iv wr => ∃ i : Nat, iv = .int .i64 i ∧ i ≤ M.ps.length ∧ tv = .int .i64 (maxBt (G.rs.take i) 0) ∧ wr = w) (fun _ iv _ => M.ps.length - (intOf iv).toNat)
 case atStart => exact ⟨0, rfl, by omega, rfl, rfl⟩
 case round =>
  obtain ⟨i, rfl, hi, rfl, rfl⟩ := hrel;by_cases hil : i < M.ps.length
  ·have t1 : decide ((i : Int) < (M.ps.length : Int)) = true := decide_eq_true (by omega);have t1n : decide (i < M.ps.length) = true := decide_eq_true hil;obtain ⟨q, hq⟩ : ∃ q, M.ps[i]? = some q := ⟨_, List.getElem?_eq_getElem hil⟩
   obtain ⟨R, hR⟩ : ∃ R, G.rs[i]? = some R := ⟨_, List.getElem?_eq_getElem (by rw [← H.out.rl]; exact hil)⟩
   obtain ⟨b, hb1, hb2, hb3⟩ := H.out.ptr hq;rw [hb1] at c0;have hi0 : (0 : Int) ≤ (i : Int) := by omega
   have hi1 : (i : Int) < (M.ps.length : Int) := by omega
   have HRF := Hh (H.out.rf i R q hR hq);have HNX := Hh (show maxBt (G.rs.take (i + 1)) 0 = max (maxBt (G.rs.take i) 0) R.bt by
    rw [List.take_add_one, hR]; exact maxBt_snoc _ _ _)
   clear hq hR hb1;go_wp2_with fail;refine (raftTerm HRF.out).mono ?_;rintro e w2 ⟨rfl, rfl⟩;go_wp2;go_roundw
   case rel => exact ⟨i + 1, by go_num, by omega, by rw [HNX.out], by first | rfl | trivial⟩
   case measure => simp [intOf]; omega
  ·have t1 : decide ((i : Int) < (M.ps.length : Int)) = false := decide_eq_false (by omega);have t1n : decide (i < M.ps.length) = false := decide_eq_false hil;have HE := Hh (show maxBt (G.rs.take i) 0 = G.term by rw [List.take_of_length_le (by rw [← H.out.rl]; omega)]; rfl);go_wp2;go_ret;rw [HE.out];exact ⟨rfl, rfl⟩
end
end Go.Proofs.YtogcnfhmcpkdcaaGreat
namespace Go.Proofs.YtogcnfhmcpkdcaaGreat
open Go.RowKit
set_option linter.unusedVariables false
set_option linter.unusedSimpArgs false
section
variable {w w' w1 : World} {B g c : Nat} {G : PGroup} {M : GMem}
theorem GrAt.rowStays (h : GrAt w B g c G M) {i : Nat} (hi : i < 8) (hg : w.grownBy w1 (rowV G M i).ownBlock) : w1.heap[g]? = some (.cells (gcells G M) 67 (0, 0)) := by
 refine (hg.block g (h.lt (x := .g) rfl) (fun e => ?_)).trans h.row;unfold rowV at e;rw [ownBlock_eq] at e;have := h.dis .g (.row i) g rfl ⟨hi, e.symm⟩;cases this
theorem gcell_get {j : Nat} (hj : j < 8) : (gcells G M)[j]? = some (rowV G M j) := by
 have e : j = 0 ∨ j = 1 ∨ j = 2 ∨ j = 3 ∨ j = 4 ∨ j = 5 ∨ j = 6 ∨ j = 7 := by omega
 rcases e with rfl | rfl | rfl | rfl | rfl | rfl | rfl | rfl <;> rfl
theorem GrAt.cell1 (h : GrAt w B g c G M) {i : Nat} (hi : i < 8) (hg : w.grownBy w1 (rowV G M i).ownBlock) : w1.cell? ⟨g, i, none⟩ = some (rowV G M i) ∧ w1.frozen? ⟨g, i, none⟩ = false := by
 have hr := h.rowStays hi hg;exact ⟨by rw [cell_of_row _ _ i _ _ _ hr]; exact gcell_get hi, frozen_of_row _ _ _ _ _ hr⟩
theorem GrAt.grewBelow (h : GrAt w B g c G M) {i : Nat} (hi : i < 8) (hg : w.grownBy w1 (rowV G M i).ownBlock) (j : Nat) (v : Value) : Below B w (w1.setCell ⟨g, j, none⟩ v) := by
 have hgB : B ≤ g := h.inn .g g rfl;refine ⟨hg.os, hg.tape, hg.output, by simpa using hg.size, fun k hk => ?_⟩;rw [Below.heap_setCell _ _ _ k (by show k ≠ g; omega)];refine hg.block k (by have := h.bs; omega) (fun e => ?_);unfold rowV at e;rw [ownBlock_eq] at e;have := h.inn (.row i) k ⟨hi, e.symm⟩;omega
structure HdU (V : World) (B g c : Nat) (G : PGroup) (M : GMem) (L : List UInt8) (U : World) (n : Nat) (a : Option Addr) (k : Nat) : Prop where
 gr : GrAt U B g c G M
 it : SlAt U U.heap.size 1 (some ⟨n, 0, none⟩) 1 1 [.slice a L.length k]
 by_ : ByAt U a k L
 bel : Below V.heap.size V U
def PGroup.madeN (n i : Nat) : PGroup := ⟨(List.range i).map fun (j : Nat) => PRaft.new (j : Int) n, (List.range i).map fun (j : Nat) => (PRaft.new (j : Int) n).head, (List.range i).map fun _ => [], (List.range i).map fun _ => 0, [], [], [], [], true⟩
def PGroup.made (n : Nat) : PGroup := PGroup.madeN n n
theorem madeN_succ (n i : Nat) : PGroup.madeN n (i + 1) = { PGroup.madeN n i with rs := (PGroup.madeN n i).rs ++ [PRaft.new (i : Int) n], hd := (PGroup.madeN n i).hd ++ [(PRaft.new (i : Int) n).head], nt := (PGroup.madeN n i).nt ++ [[]], ats := (PGroup.madeN n i).ats ++ [0] } := by
 simp [PGroup.madeN, List.range_succ]
theorem infoPR : (Tryz.prog.info? 25).map (fun i => (i.zero, i.size, i.bytes)) = some (some (.pointer none), 1, 8) := by kernel_rfl
theorem infoInt : (Tryz.prog.info? 3).map (fun i => (i.zero, i.size, i.bytes)) = some (some (.int .i64 0), 1, 8) := by kernel_rfl
theorem infoBytesS9 : (Tryz.prog.info? 29).map (fun i => (i.zero, i.size, i.bytes)) = some (some (.slice none 0 0), 1, 24) := by kernel_rfl
set_option maxRecDepth 100000 in
set_option maxHeartbeats 2000000 in
theorem l18made (n : Nat) (h1 : 1 ≤ n) (h7 : n ≤ 7) (w : World) : Calls Tryz.prog 23 #[.int .i64 n] w fun e w' => ∃ g M, e = .returned (.pointer (some ⟨g, 0, none⟩)) ∧ GrAt w' w.heap.size g 0 (PGroup.made n) M ∧ Below w.heap.size w w' := by
 obtain ⟨iP, jP, jP0, jP1, jP2⟩ := info_parts infoPR;obtain ⟨iI, jI, jI0, jI1, jI2⟩ := info_parts infoInt;obtain ⟨iB, jB, jB0, jB1, jB2⟩ := info_parts infoBytes9;obtain ⟨iS, jS, jS0, jS1, jS2⟩ := info_parts infoBytesS9;have HN := Hh (show GrAt (w.alloc (.cells (gcells PGroup.none GMem.none) 67)) w.heap.size w.heap.size 0 (PGroup.madeN n 0) GMem.none from grNone w 0);have HB0 := Hh (show Below w.heap.size w (w.alloc (.cells (gcells PGroup.none GMem.none) 67)) from (Below.refl _ _).alloc (Nat.le_refl _) _);go_enter Tryz.func23, Tryz.ntmps23
 go_wp2_with fail;obtain ⟨wo, hwo⟩ : ∃ wo : World, wo = w := ⟨_, rfl⟩
 rw [← hwo] at HN HB0;have HWO := Hh hwo;clear hwo;go_loopw [4] (fun iv wr => ∃ (i : Nat) (M : GMem), iv = .int .i64 i ∧ i ≤ n ∧ GrAt wr wo.heap.size wo.heap.size 0 (PGroup.madeN n i) M ∧ Below wo.heap.size wo wr) (fun iv _ => n - (intOf iv).toNat)
 case atStart => exact ⟨0, GMem.none, rfl, by omega, by rw [← HWO.out]; exact HN.out, by rw [← HWO.out]; exact HB0.out⟩
 case round =>
  obtain ⟨i, M, rfl, hi, hgr, hbe⟩ := hrel;have HG := Hh hgr;have HBE := Hh hbe;clear hgr hbe;rw [← HWO.out];by_cases hil : i < n
  ·have t1 : decide ((i : Int) < (n : Int)) = true := decide_eq_true (by omega);have t1n : decide (i < n) = true := decide_eq_true hil;go_wp2_with fail;refine (raftNew_yes (i : Int) (n : Int) (by omega) (by omega) (by omega) (by omega) _).mono ?_;rintro e w2 ⟨p, rfl, N, hmade⟩;have HM := Hh hmade;have hs2 := hmade.2.1.size;have hpl := hmade.1.lt;clear hmade;obtain ⟨G, hG⟩ : ∃ G, G = PGroup.madeN n i := ⟨_, rfl⟩
   have HGQ := Hh hG;rw [← hG] at HG;obtain ⟨R, hR⟩ : ∃ R, R = PRaft.new (i : Int) n := ⟨_, rfl⟩
   have HRQ := Hh hR;rw [← hR] at HM;have HPS := Hh (show M.ps.length = i ∧ M.hs.length = i ∧ M.ts.length = i ∧ G.ats.length = i by
    refine ⟨by rw [HG.out.rl, hG]; simp [PGroup.madeN], ?_, ?_, by rw [hG]; simp [PGroup.madeN]⟩
    ·have := congrArg List.length HG.out.ct.hq;rw [hG] at this; simpa [PGroup.madeN] using this
    ·have := congrArg List.length HG.out.ct.tq;rw [hG] at this; simpa [PGroup.madeN] using this)
   have HOK := Hh (show R.Ok by rw [hR]; exact ok_new (by omega) (by omega) (by omega) (by omega));have HSZ := Hh (show R.line.put.length ≤ 900000 ∧ R.state.length ≤ 70000 by rw [hR]; exact ⟨by show (PLine.put ⟨0, 0, []⟩).length ≤ 900000; decide, by show ([] : List UInt8).length ≤ 70000; decide⟩);have HNP := Hh (show N.ps = [] by
    have h9 := HM.out.1.po.q;rw [hR] at h9;exact List.map_eq_nil_iff.1 h9)
   have HFR := Hh (show ∀ k, N.own p k → wo.heap.size ≤ k ∧ ∀ y, ¬ M.own wo.heap.size y k from fun k hk => HG.out.free (HM.out.2.2 k hk));clear hG hR;obtain ⟨X, hX⟩ : ∃ X, X = w2.alloc (.cells #[.pointer (some ⟨p, 0, none⟩)] 25) := ⟨_, rfl⟩
   have hbX : Below w2.heap.size w2 X := by rw [hX]; exact (Below.refl _ _).alloc (Nat.le_refl _) _
   have HG2 := Hh (HG.out.below HM.out.2.1);have HGX := Hh (HG2.out.below hbX);have HRX := Hh (HM.out.1.below hbX);have HSX := Hh (show SlAt X (w2.heap.size + 1) 1 (some ⟨w2.heap.size, 0, none⟩) 1 1 [.pointer (some ⟨p, 0, none⟩)] by rw [hX]; exact slAt_one w2 _ _);have HBX := Hh (hbX);have hx := hbX.size;have hxs : X.heap.size = w2.heap.size + 1 := by rw [hX]; simp
   clear hbX;have c0 : w2.cell? ⟨wo.heap.size, 0, none⟩ = some (.slice (M.ra 0) M.ps.length (M.rc 0)) := HG2.out.cl (i := 0) (by omega);go_wp2_with (at_builtin; rw [← hX]; refine wpList_append_sl _ rfl _ _ 61 rfl 0 25 iP (.pointer none) 1 8 Tryz.underlying61 jP jP0 jP1 jP2 rfl (by decide) _ _ _ rfl (HGX.out.rows 0 (by omega)) (w2.heap.size + 1) (some ⟨w2.heap.size, 0, none⟩) 1 1 [.pointer (some ⟨p, 0, none⟩)] rfl HSX.out (one_oneCell rfl) ?c1 ?c2 ?c3 ?_)
   case c1 => show M.ps.length + 1 ≤ maxLen; have := HPS.out.1; unfold maxLen; omega
   case c2 => show (M.ps.length + 1) * 8 ≤ _; have := HPS.out.1; omega
   case c3 => exact Nat.zero_le _
   intro a7 c7 w7 hown7 hgrow7 hat7;rw [← hX] at hgrow7;rw [← hxs] at hat7;have hadd := HGX.out.addRaft HRX.out HNP.out HFR.out hown7 hgrow7 hat7;have hs7 := hgrow7.size;obtain ⟨d0, e0⟩ := HGX.out.cell1 (i := 0) (by omega) hgrow7;have d0 : w7.cell? ⟨wo.heap.size, 0, none⟩ = some (.slice (M.ra 0) M.ps.length (M.rc 0)) := d0;clear c0 hX;obtain ⟨W8, hW8⟩ : ∃ W8, W8 = w7.setCell ⟨wo.heap.size, 0, none⟩ (.slice a7 (rowN G M 0 + 1) c7) := ⟨_, rfl⟩
   have HB8 := Hh (show Below wo.heap.size wo W8 from HBE.out.trans ((HM.out.2.1.trans (HBX.out.mono hs2)).mono HBE.out.size |>.trans (by rw [hW8]; exact HGX.out.grewBelow (i := 0) (by omega) hgrow7 0 _)));have HADD := Hh hadd;rw [show (M.ps.length : Nat) = rowN G M 0 from rfl, ← hW8] at HADD;clear hadd hown7 hgrow7 hat7;have hs8 : W8.heap.size = w7.heap.size := by rw [hW8]; simp
   obtain ⟨M1, hM1⟩ : ∃ M1 : GMem, M1 = { M with ra := upd M.ra 0 a7, rc := upd M.rc 0 c7, ps := M.ps ++ [(p, N)] } := ⟨_, rfl⟩
   obtain ⟨G1, hG1⟩ : ∃ G1 : PGroup, G1 = { G with rs := G.rs ++ [R] } := ⟨_, rfl⟩
   rw [← hM1, ← hG1] at HADD;have HM1 := Hh (show M1.hs = M.hs ∧ M1.ts = M.ts ∧ M1.ra 1 = M.ra 1 ∧ M1.rc 1 = M.rc 1 by rw [hM1]; exact ⟨rfl, rfl, rfl, rfl⟩);have HR8 := Hh (show RfAt W8 p R N by
    refine HADD.out.rf M.ps.length R (p, N) ?_ ?_
    ·rw [hG1, HPS.out.1];have := HG.out.rl;rw [HPS.out.1] at this;show (G.rs ++ [R])[i]? = _;rw [snoc_get, if_pos this]
    ·rw [hM1]; show (M.ps ++ [(p, N)])[M.ps.length]? = _; rw [snoc_get, if_pos rfl])
   have HGQ1 := Hh (hG1);clear hM1 hG1;go_wp2_with fail;rw [← hW8];clear hW8;refine OpR (S := PZ wo.heap.size) ?_;have hdr : Below W8.heap.size W8 W8.drew := (Below.refl _ _).drew;have HG9 := Hh (HADD.out.below hdr);have HR9 := Hh (HR8.out.below hdr);have hS0 : PZ wo.heap.size W8.drew := ⟨HG9.out.lt (x := .g) rfl⟩
   refine hT 0 28 hS0 ?_;refine hT 1 29 hS0 ?_;refine hT 5 33 hS0 ?_;refine hT 2 30 hS0 ?_;refine hT 3 31 hS0 ?_;have HS0 := Hh hS0;clear hS0;apply wayR (fun U n a4 c4 => HdU W8 wo.heap.size wo.heap.size 0 G1 M1 R.head U n a4 c4);intro hway;have HHD := Hh (fun (V : World) (hv : RfAt V p R N) => raftHead p R N HOK.out.bt0 HOK.out.bt1 HOK.out.bf0 HOK.out.bf1 HOK.out.line HSZ.out.1 HSZ.out.2 V hv);refine Op2 4 6 ?_ ?_
   ·have p4 : W8.drew.cell? ⟨wo.heap.size, 1, none⟩ = some (.slice (M1.ra 1) M1.hs.length (M1.rc 1)) := HG9.out.cl (i := 1) (by omega);go_simp;clear p4;refine ⟨HS0.out, ?_⟩;refine Op1 6 ?_;go_simp;refine (HHD.out _ HR9.out).mono ?_;rintro e V9 ⟨a4, c4, rfl, hby9, hb9, -⟩;have hS9 : PZ wo.heap.size V9 := ⟨Nat.lt_of_lt_of_le HS0.out.s hb9.size⟩
    obtain ⟨U, hU⟩ : ∃ U, U = V9.alloc (.cells #[.slice a4 R.head.length c4] 27) := ⟨_, rfl⟩
    have hbU : Below V9.heap.size V9 U := by rw [hU]; exact (Below.refl _ _).alloc (Nat.le_refl _) _
    have hbVU : Below W8.heap.size W8 U := hdr.trans (hb9.trans (hbU.mono hb9.size));have hNW : HdU W8 wo.heap.size wo.heap.size 0 G1 M1 R.head U V9.heap.size a4 c4 := by
     refine ⟨HADD.out.below hbVU, ?_, OwnBs.below hby9 hbU, hbVU⟩;rw [show U.heap.size = V9.heap.size + 1 by rw [hU]; simp, hU];exact slAt_one V9 _ _
    have hSU : PZ wo.heap.size U := ⟨hNW.gr.lt (x := .g) rfl⟩
    have HU := Hh hU;have HNW := Hh hNW;have HSU := Hh hSU;have HS9 := Hh hS9;clear hb9 hby9 hU hbU hbVU hNW hSU;refine ⟨hS9, ?_⟩;clear hS9;refine Op1 7 ?_;go_simp;rw [← HU.out];refine ⟨HSU.out, ?_⟩;have hnw := HNW.out;generalize V9.heap.size = n at hnw ⊢;exact hway U n a4 c4 hnw
   ·go_simp;refine (HHD.out _ HR9.out).mono ?_;rintro e V9 ⟨a4, c4, rfl, hby9, hb9, -⟩;have hS9 : PZ wo.heap.size V9 := ⟨Nat.lt_of_lt_of_le HS0.out.s hb9.size⟩
    obtain ⟨U, hU⟩ : ∃ U, U = V9.alloc (.cells #[.slice a4 R.head.length c4] 27) := ⟨_, rfl⟩
    have hbU : Below V9.heap.size V9 U := by rw [hU]; exact (Below.refl _ _).alloc (Nat.le_refl _) _
    have hbVU : Below W8.heap.size W8 U := hdr.trans (hb9.trans (hbU.mono hb9.size));have hNW : HdU W8 wo.heap.size wo.heap.size 0 G1 M1 R.head U V9.heap.size a4 c4 := by
     refine ⟨HADD.out.below hbVU, ?_, OwnBs.below hby9 hbU, hbVU⟩;rw [show U.heap.size = V9.heap.size + 1 by rw [hU]; simp, hU];exact slAt_one V9 _ _
    have hSU : PZ wo.heap.size U := ⟨hNW.gr.lt (x := .g) rfl⟩
    have HP9 := Hh (HADD.out.below (hdr.trans hb9));have HU := Hh hU;have HNW := Hh hNW;have HSU := Hh hSU;have HS9 := Hh hS9;clear hb9 hby9 hU hbU hbVU hNW hSU;refine ⟨hS9, ?_⟩;clear hS9;refine Op2 4 7 ?_ ?_
    ·have p4 : V9.cell? ⟨wo.heap.size, 1, none⟩ = some (.slice (M1.ra 1) M1.hs.length (M1.rc 1)) := HP9.out.cl (i := 1) (by omega);go_simp;clear p4;refine ⟨HS9.out, ?_⟩;refine Op1 7 ?_;go_simp;rw [← HU.out];refine ⟨HSU.out, ?_⟩;have hnw := HNW.out;generalize V9.heap.size = n at hnw ⊢;exact hway U n a4 c4 hnw
    ·go_simp;rw [← HU.out];refine ⟨HSU.out, ?_⟩;refine Op1 4 ?_;have p4 : U.cell? ⟨wo.heap.size, 1, none⟩ = some (.slice (M1.ra 1) M1.hs.length (M1.rc 1)) := HNW.out.gr.cl (i := 1) (by omega);go_simp;clear p4;refine ⟨HSU.out, ?_⟩;have hnw := HNW.out;generalize V9.heap.size = n at hnw ⊢;exact hway U n a4 c4 hnw
   intro U nn a4 c4 hnw;have HNW := Hh hnw;clear hnw;have HLN := Hh (show M1.hs.length ≤ 7 ∧ M1.ts.length ≤ 7 by rw [HM1.out.1, HM1.out.2.1, HPS.out.2.1, HPS.out.2.2.1]; omega);refine Op1 8 ?_;refine wp_append_sl U (.tmp 32) (.tmp 35) 29 rfl 0 27 iB (.slice none 0 0) 1 24 Tryz.underlying29 jB jB0 jB1 jB2 rfl (by decide) (.slice (M1.ra 1) M1.hs.length (M1.rc 1)) M1.hs.length (M1.hs.map MNote.cell) rfl (HNW.out.gr.rows 1 (by omega)) U.heap.size (some ⟨nn, 0, none⟩) 1 1 [.slice a4 R.head.length c4] rfl HNW.out.it (by intro u hu; simp at hu; subst hu; rfl) (by have := HLN.out.1; unfold maxLen; omega) (by have := HLN.out.1; omega) (Nat.zero_le _) ?_;intro a11 c11 W11 o11 g11 hat11;have hadd := HNW.out.gr.addHead ⟨a4, c4, R.head⟩ HNW.out.by_ o11 g11 hat11;obtain ⟨p2, f2⟩ := HNW.out.gr.cell1 (i := 1) (by omega) g11;have hS11 : PZ wo.heap.size W11 := ⟨Nat.lt_of_lt_of_le (HNW.out.gr.lt (x := .g) rfl) g11.size⟩
   refine ⟨hS11, ?_⟩;go_simp;refine hT 9 37 hS11 ?_;refine hT 10 38 hS11 ?_;refine Op1 11 ?_;refine wp_store_cell 29 (.tmp 38) (.tmp 36) rfl wo.heap.size 1 (.slice a11 (M1.hs.length + 1) c11) _ rfl rfl rfl infoBytesS p2 f2 ?_;obtain ⟨W12, hW12⟩ : ∃ W12, W12 = W11.setCell ⟨wo.heap.size, 1, none⟩ (.slice a11 (M1.hs.length + 1) c11) := ⟨_, rfl⟩
   rw [← hW12] at hadd ⊢;have HG12 := Hh hadd;have hS12 : PZ wo.heap.size W12 := ⟨hadd.lt (x := .g) rfl⟩
   refine ⟨hS12, OpE ?_⟩;have HB12 := Hh (show Below wo.heap.size wo W12 from HB8.out.trans ((HNW.out.bel.mono HB8.out.size).trans (by rw [hW12]; exact HNW.out.gr.grewBelow (i := 1) (by omega) g11 1 _)));clear hS11 hS12 p2 f2 hadd hW12 o11 g11 hat11 hdr;obtain ⟨M2, hM2⟩ : ∃ M2 : GMem, M2 = { M1 with ra := upd M1.ra 1 a11, rc := upd M1.rc 1 c11, hs := M1.hs ++ [⟨a4, c4, R.head⟩] } := ⟨_, rfl⟩
   obtain ⟨G2, hG2⟩ : ∃ G2 : PGroup, G2 = { G1 with hd := G1.hd ++ [R.head] } := ⟨_, rfl⟩
   rw [← hM2, ← hG2] at HG12;have HM2 := Hh (show M2.ts = M.ts by rw [hM2]; exact HM1.out.2.1);have HGQ2 := Hh hG2;clear hM2 hG2;obtain ⟨Y, hY⟩ : ∃ Y, Y = W12.alloc (.cells #[.slice none 0 0] 29) := ⟨_, rfl⟩
   have hbY : Below W12.heap.size W12 Y := by rw [hY]; exact (Below.refl _ _).alloc (Nat.le_refl _) _
   have HGY := Hh (HG12.out.below hbY);have HSY := Hh (show SlAt Y (W12.heap.size + 1) 1 (some ⟨W12.heap.size, 0, none⟩) 1 1 [.slice none 0 0] by rw [hY]; exact slAt_one W12 _ _);have HBY := Hh hbY;have hys : Y.heap.size = W12.heap.size + 1 := by rw [hY]; simp
   clear hbY;have c2 : W12.cell? ⟨wo.heap.size, 2, none⟩ = some (.slice (M2.ra 2) M2.ts.length (M2.rc 2)) := HG12.out.cl (i := 2) (by omega);go_wp2_with (at_builtin; rw [← hY]; refine wpList_append_sl _ rfl _ _ 62 rfl 0 29 iS (.slice none 0 0) 1 24 Tryz.underlying62 jS jS0 jS1 jS2 rfl (by decide) _ _ _ rfl (HGY.out.rows 2 (by omega)) (W12.heap.size + 1) (some ⟨W12.heap.size, 0, none⟩) 1 1 [.slice none 0 0] rfl HSY.out (one_oneCell rfl) ?c1 ?c2 ?c3 ?_)
   case c1 => show M2.ts.length + 1 ≤ maxLen; have := HPS.out.2.2.1; rw [HM2.out]; unfold maxLen; omega
   case c2 => show (M2.ts.length + 1) * 24 ≤ _; have := HPS.out.2.2.1; rw [HM2.out]; omega
   case c3 => exact Nat.zero_le _
   intro a13 c13 w13 hown13 hgrow13 hat13;rw [← hY] at hgrow13;rw [← hys] at hat13;have hadd3 := HGY.out.addNotes hown13 hgrow13 hat13;obtain ⟨d2, e2⟩ := HGY.out.cell1 (i := 2) (by omega) hgrow13;have d2 : w13.cell? ⟨wo.heap.size, 2, none⟩ = some (.slice (M2.ra 2) M2.ts.length (M2.rc 2)) := d2;clear c2 hY;obtain ⟨W14, hW14⟩ : ∃ W14, W14 = w13.setCell ⟨wo.heap.size, 2, none⟩ (.slice a13 (rowN G2 M2 2 + 1) c13) := ⟨_, rfl⟩
   have HB14 := Hh (show Below wo.heap.size wo W14 from HB12.out.trans ((HBY.out.mono HB12.out.size).trans (by rw [hW14]; exact HGY.out.grewBelow (i := 2) (by omega) hgrow13 2 _)));have HG14 := Hh hadd3;rw [show (M2.ts.length : Nat) = rowN G2 M2 2 from rfl, ← hW14] at HG14;have hr13 := HGY.out.rowStays (i := 2) (by omega) hgrow13;clear hadd3 hown13 hgrow13 hat13;obtain ⟨M3, hM3⟩ : ∃ M3 : GMem, M3 = { M2 with ra := upd M2.ra 2 a13, rc := upd M2.rc 2 c13, ts := M2.ts ++ [⟨none, 0, []⟩] } := ⟨_, rfl⟩
   obtain ⟨G3, hG3⟩ : ∃ G3 : PGroup, G3 = { G2 with nt := G2.nt ++ [[]] } := ⟨_, rfl⟩
   rw [← hM3, ← hG3] at HG14;have HGQ3 := Hh hG3;have HATL := Hh (show G3.ats.length = i by rw [hG3]; show G2.ats.length = i; rw [HGQ2.out]; show G1.ats.length = i; rw [HGQ1.out]; exact HPS.out.2.2.2);have HM3 := Hh (show M3.ra 3 = M2.ra 3 ∧ M3.rc 3 = M2.rc 3 ∧ G3.ats = G2.ats by rw [hM3, hG3]; exact ⟨rfl, rfl, rfl⟩);clear hM3 hG3;obtain ⟨Z, hZ⟩ : ∃ Z, Z = W14.alloc (.cells #[.int .i64 0] 3) := ⟨_, rfl⟩
   have hbZ : Below W14.heap.size W14 Z := by rw [hZ]; exact (Below.refl _ _).alloc (Nat.le_refl _) _
   have HGZ := Hh (HG14.out.below hbZ);have hs14 : W14.heap.size = w13.heap.size := by rw [hW14]; simp
   have HSZ4 := Hh (show SlAt Z (W14.heap.size + 1) 1 (some ⟨w13.heap.size, 0, none⟩) 1 1 [.int .i64 0] by rw [hZ, ← hs14]; exact slAt_one W14 _ _);have HBZ := Hh hbZ;have hzs : Z.heap.size = W14.heap.size + 1 := by rw [hZ]; simp
   clear hbZ;have c3 : w13.cell? ⟨wo.heap.size, 3, none⟩ = some (.slice (M3.ra 3) G3.ats.length (M3.rc 3)) := by
    rw [cell_of_row _ _ 3 _ _ _ hr13, HM3.out.1, HM3.out.2.1, HM3.out.2.2]; exact gcell_get (by omega)
   clear hr13;go_wp2_with (at_builtin; rw [← hW14, ← hZ]; (refine wpList_append_sl _ rfl _ _ 63 rfl 0 3 iI (.int .i64 0) 1 8 Tryz.underlying63 jI jI0 jI1 jI2 rfl (by decide) _ _ _ rfl (HGZ.out.rows 3 (by omega)) (W14.heap.size + 1) (some ⟨w13.heap.size, 0, none⟩) 1 1 [.int .i64 0] rfl HSZ4.out (one_oneCell rfl) ?c1 ?c2 ?c3 ?_))
   case c1 => show G3.ats.length + 1 ≤ maxLen; rw [HATL.out]; unfold maxLen; omega
   case c2 => show (G3.ats.length + 1) * 8 ≤ _; rw [HATL.out]; omega
   case c3 => exact Nat.zero_le _
   intro a15 c15 w15 hown15 hgrow15 hat15;rw [← hW14, ← hZ] at hgrow15;rw [← hs14, ← hzs] at hat15;have hadd4 := HGZ.out.addAt 0 hown15 hgrow15 hat15;obtain ⟨d3, e3⟩ := HGZ.out.cell1 (i := 3) (by omega) hgrow15;have d3 : w15.cell? ⟨wo.heap.size, 3, none⟩ = some (.slice (M3.ra 3) G3.ats.length (M3.rc 3)) := d3;clear c3 hZ;obtain ⟨W16, hW16⟩ : ∃ W16, W16 = w15.setCell ⟨wo.heap.size, 3, none⟩ (.slice a15 (rowN G3 M3 3 + 1) c15) := ⟨_, rfl⟩
   have HB16 := Hh (show Below wo.heap.size wo W16 from HB14.out.trans ((HBZ.out.mono HB14.out.size).trans (by rw [hW16]; exact HGZ.out.grewBelow (i := 3) (by omega) hgrow15 3 _)));have HG16 := Hh hadd4;rw [show (G3.ats.length : Nat) = rowN G3 M3 3 from rfl, ← hW16] at HG16;clear hadd4 hown15 hgrow15 hat15;have HEQ := Hh (show { G3 with ats := G3.ats ++ [0] } = PGroup.madeN n (i + 1) by
    rw [madeN_succ, HGQ3.out, HGQ2.out, HGQ1.out, ← HGQ.out, ← HRQ.out])
   go_wp2_with fail;go_roundw
   case rel => exact ⟨i + 1, _, by go_num, by omega, by rw [← hW16, ← HEQ.out]; exact HG16.out, by rw [← hW16]; exact HB16.out⟩
   case measure => simp [intOf]; omega
  ·have t1 : decide ((i : Int) < (n : Int)) = false := decide_eq_false (by omega);have t1n : decide (i < n) = false := decide_eq_false hil;have hin : i = n := by omega
   subst hin;go_wp2;go_ret;exact ⟨_, M, rfl, by rw [← HWO.out]; exact HG.out, by rw [← HWO.out]; exact HBE.out⟩
end
end Go.Proofs.YtogcnfhmcpkdcaaGreat
namespace Go.Proofs.YtogcnfhmcpkdcaaGreat
open Go.RowKit
set_option linter.unusedVariables false
set_option linter.unusedSimpArgs false
structure LdW (w0 w : World) (B g c : Nat) (G : PGroup) (M : GMem) (bb : Nat) (t : Int) (i : Nat) : Prop where
 gr : GrAt w B g c G M
 bl : Below B w0 w
 bx : w.heap[bb]? = some (.cells #[.int .i64 t, .int .i64 i] 80 (0, 0))
 bf : B ≤ bb ∧ ∀ x, ¬ M.own g x bb
section
variable {w0 w w' w1 : World} {B g c : Nat} {G : PGroup} {M : GMem} {bb i : Nat} {t : Int}
theorem LdW.below (h : LdW w0 w B g c G M bb t i) (hb : Below w.heap.size w w') : LdW w0 w' B g c G M bb t i :=
 ⟨h.gr.below hb, h.bl.trans (hb.mono h.gr.bs), (hb.block bb (Array.getElem?_eq_some_iff.1 h.bx).1).trans h.bx, h.bf⟩
theorem below_set {w : World} {B g j : Nat} (hB : B ≤ g) (v : Value) : Below B w (w.setCell ⟨g, j, none⟩ v) :=
 ⟨rfl, rfl, rfl, by simp, fun k hk => Below.heap_setCell _ _ _ k (by show k ≠ g; omega)⟩
theorem LdW.right (h : LdW w0 w B g c G M bb t i) (hr : G.right = true) : LdW w0 (w.setCell ⟨g, 8, none⟩ (.bool true)) B g c G M bb t i := by
 have h1 := h.gr.setRight true;have e : ({ G with right := true } : PGroup) = G := by rw [← hr]
 rw [e] at h1;exact ⟨h1, h.bl.trans (below_set (h.gr.inn .g g rfl) _), (Below.heap_setCell _ _ _ bb (fun e => h.bf.2 .g (show bb = g from e))).trans h.bx, h.bf⟩
theorem LdW.c0 (h : LdW w0 w B g c G M bb t i) : w.cell? ⟨bb, 0, none⟩ = some (.int .i64 t) := by rw [cell_of_row _ _ 0 _ _ _ h.bx]; rfl
theorem LdW.c1 (h : LdW w0 w B g c G M bb t i) : w.cell? ⟨bb, 1, none⟩ = some (.int .i64 i) := by rw [cell_of_row _ _ 1 _ _ _ h.bx]; rfl
def PGroup.led1 (G : PGroup) (t i : Int) : PGroup := if ∀ x ∈ G.led, x.1 ≠ t then { G with led := G.led ++ [(t, i)] } else G
theorem ledGet (l : List (Int × Int)) {k : Nat} {x : Int × Int} (hk : l[k]? = some x) : (l.flatMap ledCells)[k * 2]? = some (.int .i64 x.1) ∧ (l.flatMap ledCells)[k * 2 + 1]? = some (.int .i64 x.2) := by
 induction l generalizing k with
 | nil => simp at hk
 | cons y l ih =>
  cases k with
  | zero => simp at hk; subst hk; exact ⟨rfl, rfl⟩
  | succ k =>
   have h1 := ih (k := k) (by simpa using hk);have e1 : (k + 1) * 2 = k * 2 + 1 + 1 := by omega
   rw [e1];simpa [ledCells] using h1
theorem LineAt.set {q : Nat} {x : PLine} {la : Option Addr} {lc : Nat} {ms : List MItem} (h : LnAt w 0 q x la lc ms) {j : Nat} {v : Value} {cs : Array Value} (hg : w.heap[g]? = some (.cells cs 67 (0, 0))) : LnAt (w.setCell ⟨g, j, none⟩ v) 0 q x la lc ms := by
 have hk : ∀ k, k ≠ g → (w.setCell ⟨g, j, none⟩ v).heap[k]? = w.heap[k]? := fun k hk => Below.heap_setCell _ _ _ k hk
 refine ⟨(hk q (fun e => ?_)).trans h.row, own_mv9 h.own fun k hk' => hk k (fun e => ?_), h.its, fun m hm => OwnBs.grown (T := 5) (h.bs m hm) (fun k cs' fr _ hc => hk k (fun e => ?_)) (by simp), Nat.zero_le _⟩
 ·subst e; exact absurd (kind_eq hg h.row) (by decide)
 ·subst e;obtain ⟨cur, hc⟩ := own_kind h.own (by rw [ownBlock_eq] at hk'; exact hk');exact absurd (kind_eq hg hc) (by decide)
 ·subst e; exact absurd (kind_eq hg hc) (by decide)
theorem itemsOne (w : World) (m : MItem) (hm : OwnBs 5 w m) : ItemsAt (w.alloc (.cells #[.int .i64 m.t, .slice m.a m.n m.c] 40)) (w.heap.size + 1) (some ⟨w.heap.size, 0, none⟩) 1 1 [m] :=
 ⟨slAt_item w #[.int .i64 m.t, .slice m.a m.n m.c] 40 2 rfl, fun y hy => by
  rw [List.mem_singleton] at hy; subst hy;have h1 := OwnBs.below hm ((Below.refl _ w).alloc (Nat.le_refl _) (.cells #[.int .i64 y.t, .slice y.a y.n y.c] 40));have h2 := h1.1;simpa using h2⟩
theorem cell_lt9 {b o : Nat} {v : Value} (h : w.cell? ⟨b, o, none⟩ = some v) : b < w.heap.size := by
 by_cases hb : b < w.heap.size
 ·exact hb
 ·exfalso;have h9 : w.heap[b]? = none := by rw [Array.getElem?_eq_none_iff]; omega
  simp [World.cell?, h9] at h
theorem cell_far9 {b k : Nat} (h : w'.heap[b]? = w.heap[b]?) : w'.cell? ⟨b, k, none⟩ = w.cell? ⟨b, k, none⟩ := by
 simp [World.cell?, h]
structure SmU (V : World) (m1 m2 : MItem) (U : World) (n1 n2 : Nat) : Prop where
 i1 : ItemsAt U U.heap.size (some ⟨n1, 0, none⟩) 1 1 [m1]
 i2 : ItemsAt U U.heap.size (some ⟨n2, 0, none⟩) 1 1 [m2]
 bl : Below V.heap.size V U
theorem SmU.ab (V : World) {m1 m2 : MItem} (h1 : OwnBs 5 V m1) (h2 : OwnBs 5 V m2) : SmU V m1 m2 ((V.alloc (.cells #[.int .i64 m1.t, .slice m1.a m1.n m1.c] 40)).alloc (.cells #[.int .i64 m2.t, .slice m2.a m2.n m2.c] 40)).drew V.heap.size (V.heap.size + 1) := by
 obtain ⟨X, hX⟩ : ∃ X, X = V.alloc (.cells #[.int .i64 m1.t, .slice m1.a m1.n m1.c] 40) := ⟨_, rfl⟩
 have b1 : Below V.heap.size V X := by rw [hX]; exact (Below.refl _ _).alloc (Nat.le_refl _) _
 have s1 : X.heap.size = V.heap.size + 1 := by rw [hX]; simp
 have i1 := itemsOne V m1 h1;rw [← hX, ← s1] at i1;have i2 := itemsOne X m2 (h2.below b1);rw [s1] at i2;rw [← hX];obtain ⟨Y, hY⟩ : ∃ Y, Y = X.alloc (.cells #[.int .i64 m2.t, .slice m2.a m2.n m2.c] 40) := ⟨_, rfl⟩
 have b2 : Below X.heap.size X Y := by rw [hY]; exact (Below.refl _ _).alloc (Nat.le_refl _) _
 have s2 : Y.heap.size = X.heap.size + 1 := by rw [hY]; simp
 rw [← hY] at i2 ⊢;have b3 : Below Y.heap.size Y Y.drew := (Below.refl _ _).drew;refine ⟨((i1.below b2 (Nat.le_refl _)).mono b2.size).below b3 (Nat.le_refl _), (i2.mono (show _ ≤ Y.heap.size by omega)).below b3 (Nat.le_refl _), b1.trans ((b2.trans (b3.mono b2.size)).mono b1.size)⟩
theorem SmU.ba (V : World) {m1 m2 : MItem} (h1 : OwnBs 5 V m1) (h2 : OwnBs 5 V m2) : SmU V m1 m2 ((V.alloc (.cells #[.int .i64 m2.t, .slice m2.a m2.n m2.c] 40)).alloc (.cells #[.int .i64 m1.t, .slice m1.a m1.n m1.c] 40)).drew (V.heap.size + 1) V.heap.size :=
 let h := SmU.ab V h2 h1
 ⟨h.i2, h.i1, h.bl⟩
theorem wayS {F1 : World → Nat → Nat → Prop} {P : Prop} (F : World → Nat → Nat → Prop) (main : (∀ U n a, F U n a → F1 U n a) → P) (key : ∀ U n a, F U n a → F1 U n a) : P := main key
structure SmS (g sb o ib n cap : Nat) (m1 m2 : MItem) (W : World) : Prop where
 s : g < W.heap.size
 r : W.cell? ⟨g, 8, none⟩ = some (.bool true)
 s5 : W.cell? ⟨g, 5, none⟩ = some (.slice (some ⟨sb, 0, none⟩) n cap)
 x0 : W.cell? ⟨sb, o, none⟩ = some (.int .i64 m2.t)
 x1 : W.cell? ⟨sb, o + 1, none⟩ = some (.slice m2.a m2.n m2.c)
 i0 : W.cell? ⟨ib, 0, none⟩ = some (.int .i64 m1.t)
 i1 : W.cell? ⟨ib, 1, none⟩ = some (.slice m1.a m1.n m1.c)
structure BzS (g bb : Nat) (t : Int) (i : Nat) (W : World) : Prop where
 s : g < W.heap.size
 c0 : W.cell? ⟨bb, 0, none⟩ = some (.int .i64 t)
 c1 : W.cell? ⟨bb, 1, none⟩ = some (.int .i64 i)
theorem LdW.bz (h : LdW w0 w B g c G M bb t i) : BzS g bb t i w := ⟨h.gr.lt (x := .g) rfl, h.c0, h.c1⟩
theorem infoBallots : (Tryz.prog.info? 65).map (·.size) = some 1 := by kernel_rfl
theorem infoBallotG : (Tryz.prog.info? 80).map (fun i => (i.zero, i.size, i.bytes)) = some (some (.agg #[.int .i64 0, .int .i64 0]), 2, 16) := by kernel_rfl
set_option maxRecDepth 100000 in
set_option maxHeartbeats 2000000 in
theorem l18leads {N : RMem} {p : Nat} {R : PRaft} (h : GrAt w B g i G M) (hR : G.rs[i]? = some R) (hq : M.ps[i]? = some (p, N)) (hok : R.Ok) (hr : G.right = true)
  (hll : G.led.length ≤ 1000000) (hsl : G.seen.length ≤ 1000000) (hwl : G.wh.length = G.seen.length) (hpe : N.ps = [])
  (hled : ∀ x ∈ G.led, x.1 = R.bt → x.2 = i) (hseen : ∀ (k : Nat) (x : PItem) (t : Int), G.seen[k]? = some x → G.wh[k]? = some t → t < R.bt → R.line.base < (k : Int) + 1 → (k : Int) + 1 ≤ R.line.last ∧ R.item ((k : Int) + 1) = x) :
  Calls Tryz.prog 63 #[.pointer (some ⟨g, 0, none⟩), .int .i64 i] w fun e w' => e = .returned (.tuple #[]) ∧ ∃ M', GrAt w' B g i (G.led1 R.bt i) M' ∧ M'.ps = M.ps ∧ Below B w w' := by
 obtain ⟨iB, jB, jB0, jB1, jB2⟩ := info_parts infoBallotG;obtain ⟨b0, hb1, hb2, hb3⟩ := h.ptr hq;have hi0 : (0 : Int) ≤ (i : Int) := by omega
 have hin : i < M.ps.length := (List.getElem?_eq_some_iff.1 hq).1;have hi1 : (i : Int) < (M.ps.length : Int) := by omega
 have c0 : w.cell? ⟨g, 0, none⟩ = some (.slice (some ⟨b0, 0, none⟩) M.ps.length (M.rc 0)) := by rw [← hb1]; exact h.cl (i := 0) (by omega)
 obtain ⟨t, ht⟩ : ∃ t, t = R.bt := ⟨_, rfl⟩
 have HT := Hh ht;have HRF := Hh (h.rf i R (p, N) hR hq);have H := Hh h;have HR := Hh hR;have HQ := Hh hq;have HRT := Hh hr;have HLED := Hh hled;have HSEEN := Hh hseen;have HWL := Hh hwl;have HPE := Hh hpe;clear h hR hq hr hled hseen hb1 ht hwl hpe;go_enter Tryz.func63, Tryz.ntmps63
 go_wp2_with fail;refine (raftTerm HRF.out).mono ?_;rintro e w2 ⟨rfl, rfl⟩;rw [← HT.out];clear c0;have HL0 := Hh (show LdW w (w.alloc (.cells #[.int .i64 t, .int .i64 i] 80)) B g i G M w.heap.size t i from
  ⟨H.out.below ((Below.refl _ _).alloc (Nat.le_refl _) _), ((Below.refl _ _).alloc (Nat.le_refl _) _).mono H.out.bs, heap_alloc_new w _, H.out.free (Nat.le_refl _)⟩)
 go_wp2_with fail;obtain ⟨wo, hwo⟩ : ∃ wo : World, wo = w := ⟨_, rfl⟩
 go_loopw [5, 6] (fun fv iv wr => ∃ (k : Nat) (f : Bool), iv = .int .i64 k ∧ k ≤ G.led.length ∧ fv = .bool f ∧ (f = true ↔ ∀ x ∈ G.led.take k, x.1 ≠ t) ∧ LdW wo wr B g i G M wo.heap.size t i) (fun _ iv _ => G.led.length - (intOf iv).toNat)
 case atStart => exact ⟨0, true, rfl, by omega, rfl, by simp, by rw [hwo]; exact HL0.out⟩
 case round =>
  obtain ⟨k, f, rfl, hk, rfl, hf, hl⟩ := hrel;have HL := Hh hl;have HF := Hh hf;clear hl hf;subst hwo;have c7 : wr.cell? ⟨g, 7, none⟩ = some (.slice (M.ra 7) G.led.length (M.rc 7)) := HL.out.gr.cl (i := 7) (by omega);have cr : wr.cell? ⟨g, 8, none⟩ = some (.bool true) := by rw [← HRT.out]; exact HL.out.gr.cr
  have fr := HL.out.gr.f 8;have cb := HL.out.c0;by_cases hkl : k < G.led.length
  ·have t1 : decide ((k : Int) < (G.led.length : Int)) = true := decide_eq_true (by omega);have t1n : decide (k < G.led.length) = true := decide_eq_true hkl;obtain ⟨x, hx⟩ : ∃ x, G.led[k]? = some x := ⟨_, List.getElem?_eq_getElem hkl⟩
   obtain ⟨q, hq1, hq2, hq3, hq4⟩ := HL.out.gr.at_ (i := 7) (by omega) (j := k * 2) (by show k * 2 < G.led.length * 2; omega);obtain ⟨q', hq1', hq2', _, _⟩ := HL.out.gr.at_ (i := 7) (by omega) (j := k * 2 + 1) (by show k * 2 + 1 < G.led.length * 2; omega);rw [hq1] at hq1';injection hq1' with e1; injection e1 with e1; subst e1
   have k0 : wr.cell? ⟨q, k * 2, none⟩ = some (.int .i64 x.1) := hq2.trans (ledGet _ hx).1;have k1 : wr.cell? ⟨q, k * 2 + 1, none⟩ = some (.int .i64 x.2) := hq2'.trans (ledGet _ hx).2;rw [hq1] at c7;have hk0 : (0 : Int) ≤ (k : Int) := by omega
   have hk1 : (k : Int) < (G.led.length : Int) := by omega
   have hxm := List.mem_of_getElem? hx;have HX := Hh hx;clear hx hq1 hq2 hq2' hq3;by_cases hxt : x.1 = t
   ·have tx : (x.1 == t) = true := by simpa using hxt
    have hxi : x.2 = i := HLED.out x hxm (by rw [← HT.out]; exact hxt);have ti : (x.2 == (i : Int)) = true := by simpa using hxi
    have HXT := Hh hxt;have HXI := Hh hxi;clear hxt hxi hxm;go_wp2_with fail;go_quiet (fail)
    go_wp2_with fail;have HLN := Hh ((HL.out.below (below_drewN wr nq)).right HRT.out);go_roundw
    case rel =>
     refine ⟨k + 1, false, by go_num, by omega, rfl, ?_, HLN.out⟩;rw [List.take_add_one, HX.out];constructor
     ·intro e; cases e
     ·intro e; exact absurd HXT.out (e x (by simp))
    case measure => simp [intOf]; omega
   ·have tx : (x.1 == t) = false := by simpa using hxt
    have HXT := Hh hxt;clear hxt hxm;go_wp2_with fail;go_quiet (fail)
    go_wp2_with fail;have HLN := Hh (HL.out.below (below_drewN wr nq));go_roundw
    case rel =>
     refine ⟨k + 1, f, by go_num, by omega, rfl, ?_, HLN.out⟩;rw [List.take_add_one, HX.out, HF.out];constructor
     ·intro e y hy;rw [List.mem_append] at hy;rcases hy with hy | hy
      ·exact e y hy
      ·simp at hy; subst hy; exact HXT.out
     ·intro e y hy;exact e y (List.mem_append.2 (.inl hy))
    case measure => simp [intOf]; omega
  ·have t1 : decide ((k : Int) < (G.led.length : Int)) = false := decide_eq_false (by omega);have t1n : decide (k < G.led.length) = false := decide_eq_false hkl;have HF2 := Hh (show f = true ↔ ∀ x ∈ G.led, x.1 ≠ t by rw [HF.out, List.take_of_length_le (by omega)]);clear HF;obtain ⟨GL, hGL⟩ : ∃ GL, GL = G.led1 t i := ⟨_, rfl⟩
   have HGL := Hh hGL;clear hGL;go_upto_if 62 with fail
   go_cut [] (fun wc => ∃ M', LdW wo wc B g i GL M' wo.heap.size t i ∧ M'.ps = M.ps)
   case first =>
    cases f with
    | false =>
     have HLF := Hh (show LdW wo wr B g i GL M wo.heap.size t i by
      rw [HGL.out]; unfold PGroup.led1; rw [if_neg (fun e => by have := HF2.out.2 e; cases this)]; exact HL.out)
     go_wp2_with fail;go_meet;exact ⟨M, HLF.out, rfl⟩
    | true =>
     have HGE := Hh (show GL = { G with led := G.led ++ [(t, (i : Int))] } by rw [HGL.out]; unfold PGroup.led1; rw [if_pos (HF2.out.1 rfl)]);clear cr fr cb c7;go_wp2_with fail;refine OpR (S := BzS g wo.heap.size t i) ?_;have hdr : Below wr.heap.size wr wr.drew := (Below.refl _ _).drew;have HG9 := Hh (HL.out.below hdr);have hS0 : BzS g wo.heap.size t i wr.drew := HG9.out.bz;refine hT 0 63 hS0 ?_;refine hT 1 64 hS0 ?_;refine hT 5 68 hS0 ?_;refine hT 2 65 hS0 ?_;refine hT 3 66 hS0 ?_;have HS0 := Hh hS0;clear hS0;obtain ⟨U, hU⟩ : ∃ U, U = (wr.alloc (.cells #[.int .i64 t, .int .i64 i] 80)).drew := ⟨_, rfl⟩
     have hbU : Below wr.heap.size wr U := by rw [hU]; exact ((Below.refl _ _).alloc (Nat.le_refl _) _).drew
     have HLU := Hh (HL.out.below hbU);have HIT := Hh (show SlAt U U.heap.size 2 (some ⟨wr.heap.size, 0, none⟩) 1 1 [.int .i64 t, .int .i64 i] by
      rw [show U.heap.size = wr.heap.size + 1 by rw [hU]; simp, hU];exact (slAt_item wr #[.int .i64 t, .int .i64 i] 80 2 rfl).below (show Below (wr.heap.size + 1) (wr.alloc (.cells #[.int .i64 t, .int .i64 i] 80)) _ from (Below.refl _ _).drew) (Nat.le_refl _))
     have HU := Hh hU;have HSU := Hh HLU.out.bz;clear hbU hU;apply wayU (fun U' => U' = U);intro hway;refine Op2 4 6 ?_ ?_
     ·have p4 : wr.drew.cell? ⟨g, 7, none⟩ = some (.slice (M.ra 7) G.led.length (M.rc 7)) := HG9.out.gr.cl (i := 7) (by omega);go_simp;clear p4;refine ⟨HS0.out, ?_⟩;refine Op1 6 ?_;go_simp;rw [← HU.out];refine ⟨HSU.out, ?_⟩;exact hway U rfl
     ·go_simp;rw [← HU.out];refine ⟨HSU.out, ?_⟩;refine Op1 4 ?_;have p4 : U.cell? ⟨g, 7, none⟩ = some (.slice (M.ra 7) G.led.length (M.rc 7)) := HLU.out.gr.cl (i := 7) (by omega);go_simp;clear p4;refine ⟨HSU.out, ?_⟩;exact hway U rfl
     rintro U' rfl;refine Op1 7 ?_;refine wp_append_sl U' (.tmp 67) (.tmp 69) 65 rfl 0 80 iB (.agg #[.int .i64 0, .int .i64 0]) 2 16 Tryz.underlying65 jB jB0 jB1 jB2 rfl (by decide) (.slice (M.ra 7) G.led.length (M.rc 7)) G.led.length (G.led.flatMap ledCells) rfl (HLU.out.gr.rows 7 (by omega)) U'.heap.size (some ⟨wr.heap.size, 0, none⟩) 1 1 [.int .i64 t, .int .i64 i] rfl HIT.out (by intro u hu; simp at hu; rcases hu with rfl | rfl <;> rfl) (by unfold maxLen; omega) (by omega) (Nat.zero_le _) ?_;intro a11 c11 W11 o11 g11 hat11;have hadd := HLU.out.gr.addLed (t, (i : Int)) o11 g11 hat11;obtain ⟨p2, f2⟩ := HLU.out.gr.cell1 (i := 7) (by omega) g11;have hbb : (rowV G M 7).ownBlock ≠ some wo.heap.size := fun e => by
      unfold rowV at e;rw [ownBlock_eq] at e;exact HLU.out.bf.2 (.row 7) ⟨by omega, e⟩
     have hbx : W11.heap[wo.heap.size]? = some (.cells #[.int .i64 t, .int .i64 i] 80 (0, 0)) := (g11.block wo.heap.size (Array.getElem?_eq_some_iff.1 HLU.out.bx).1 (fun e => hbb e.symm)).trans HLU.out.bx;have hS11 : BzS g wo.heap.size t i W11 := ⟨Nat.lt_of_lt_of_le HSU.out.s g11.size, by rw [cell_of_row _ _ 0 _ _ _ hbx]; rfl, by rw [cell_of_row _ _ 1 _ _ _ hbx]; rfl⟩
     refine ⟨hS11, ?_⟩;go_simp;refine hT 8 71 hS11 ?_;refine hT 9 72 hS11 ?_;refine Op1 10 ?_;refine wp_store_cell 65 (.tmp 72) (.tmp 70) rfl g 7 (.slice a11 (G.led.length + 1) c11) _ rfl rfl rfl infoBallots p2 f2 ?_;have hbl := HLU.out.gr.grewBelow (i := 7) (by omega) g11 7 (.slice a11 (G.led.length + 1) c11);obtain ⟨W12, hW12⟩ : ∃ W12, W12 = W11.setCell ⟨g, 7, none⟩ (.slice a11 (G.led.length + 1) c11) := ⟨_, rfl⟩
     have hbx2 : W12.heap[wo.heap.size]? = some (.cells #[.int .i64 t, .int .i64 i] 80 (0, 0)) := by
      rw [hW12]; exact (Below.heap_setCell _ _ _ _ (fun e => HLU.out.bf.2 .g (show wo.heap.size = g from e))).trans hbx
     rw [← hW12] at hadd hbl ⊢;have HL12 := Hh (show LdW wo W12 B g i GL { M with ra := upd M.ra 7 a11, rc := upd M.rc 7 c11 } wo.heap.size t i from
      ⟨by rw [HGE.out]; exact hadd, HLU.out.bl.trans (hbl), hbx2, ⟨HLU.out.bf.1, fun x hx => by
       have h9 : LdW wo U' B g i G M wo.heap.size t i := HLU.out;cases x with
       | g => exact h9.bf.2 .g hx
       | raft j => exact h9.bf.2 (.raft j) hx
       | nts j => exact h9.bf.2 (.nts j) hx
       | row j =>
        obtain ⟨hj, hk⟩ : j < 8 ∧ (upd M.ra 7 a11 j).map (·.block) = some wo.heap.size := hx;by_cases e7 : j = 7
        ·subst e7;rw [upd_same] at hk;rw [ownBlock_eq] at hat11;rcases hat11 with e | e
         ·rw [hk] at e; exact hbb e.symm
         ·rw [hk] at e;injection e with e
          have := (Array.getElem?_eq_some_iff.1 h9.bx).1;omega
        ·rw [upd_other _ _ e7] at hk;exact h9.bf.2 (.row j) ⟨hj, hk⟩⟩⟩)
     have hS12 : BzS g wo.heap.size t i W12 := HL12.out.bz;refine ⟨hS12, OpE ?_⟩;clear hS11 hS12 p2 f2 hbb hbx hbx2 hadd hbl hW12 o11 g11 hat11 hdr;go_wp2_with fail;go_meet;exact ⟨_, HL12.out, rfl⟩
   case rest =>
    obtain ⟨M2, hl2, hm2⟩ := hcut;have HL2 := Hh hl2;have HM2 := Hh hm2;clear hl2 hm2;have HGE := Hh (show GL.rs = G.rs ∧ GL.seen = G.seen ∧ GL.wh = G.wh ∧ GL.right = true by
     rw [HGL.out]; unfold PGroup.led1; split <;> exact ⟨rfl, rfl, rfl, HRT.out⟩)
    have HP2 := Hh (show M2.ps[i]? = some (p, N) by rw [HM2.out]; exact HQ.out);have HRF2 := Hh (HL2.out.gr.rf i R (p, N) (by rw [HGE.out.1]; exact HR.out) HP2.out);obtain ⟨b2, hb21, hb22, hb23⟩ := HL2.out.gr.ptr HP2.out;have hlen2 : M2.ps.length = M.ps.length := by rw [HM2.out]
    have hi2 : (i : Int) < (M2.ps.length : Int) := by omega
    have c0 : wc.cell? ⟨g, 0, none⟩ = some (.slice (some ⟨b2, 0, none⟩) M2.ps.length (M2.rc 0)) := by rw [← hb21]; exact HL2.out.gr.cl (i := 0) (by omega)
    clear hb21 hlen2;go_wp2_with fail;refine (raftLine hok.line HRF2.out).mono ?_;rintro e w3 ⟨q, la, lc, rfl, hln3, hbe3, hq3⟩;have HLN3 := Hh (LineAt.mono0 hln3);have HL3 := Hh (HL2.out.below hbe3);clear hln3 hbe3 c0 hb22;go_wp2_with fail;refine (lineBase 0 q R.line la lc N.ms _ HLN3.out).mono ?_;rintro e w4 ⟨rfl, m4, rfl⟩;have HLN4 := Hh (HLN3.out.drewN m4);have HL4 := Hh (HL3.out.below (below_drewN w3 m4));go_wp2_with fail;have hbase := hok.line.b0;have hbase1 := hok.line.b1;obtain ⟨bs, hbs⟩ : ∃ bs, bs = R.line.base := ⟨_, rfl⟩
    rw [← hbs] at hbase hbase1 ⊢;have HBS := Hh hbs;clear hbs;go_loopw [10] (fun iv wr => ∃ k : Nat, iv = .int .i64 k ∧ k ≤ GL.seen.length ∧ LdW wo wr B g i GL M2 wo.heap.size t i ∧ LnAt wr 0 q R.line la lc N.ms) (fun iv _ => GL.seen.length - (intOf iv).toNat)
    case atStart => exact ⟨0, rfl, by omega, HL4.out, HLN4.out⟩
    case round =>
     obtain ⟨j, rfl, hj, hl5, hln5⟩ := hrel;have HL5 := Hh hl5;have HLN5 := Hh hln5;clear hl5 hln5;have d5 : wr.cell? ⟨g, 5, none⟩ = some (.slice (M2.ra 5) M2.ss.length (M2.rc 5)) := HL5.out.gr.cl (i := 5) (by omega);have hss : M2.ss.length = GL.seen.length := by rw [← HL5.out.gr.ct.sq]; simp
     rw [hss] at d5;by_cases hjl : j < GL.seen.length
     ·have t2 : decide ((j : Int) < (GL.seen.length : Int)) = true := decide_eq_true (by omega);have t2n : decide (j < GL.seen.length) = true := decide_eq_true hjl;have hwl2 : GL.wh.length = GL.seen.length := by rw [HGE.out.2.1, HGE.out.2.2.1]; exact HWL.out
      obtain ⟨x, hx⟩ : ∃ x, GL.seen[j]? = some x := ⟨_, List.getElem?_eq_getElem hjl⟩
      obtain ⟨y, hy⟩ : ∃ y, GL.wh[j]? = some y := ⟨_, List.getElem?_eq_getElem (by omega)⟩
      obtain ⟨ms, hms⟩ : ∃ ms, M2.ss[j]? = some ms := ⟨_, List.getElem?_eq_getElem (by omega)⟩
      have hmx : ms.it = x := by
       have h9 := HL5.out.gr.ct.sq;have h8 : (M2.ss.map MItem.it)[j]? = some x := by rw [h9]; exact hx
       rw [List.getElem?_map, hms] at h8;injection h8
      obtain ⟨q6, hq61, hq62, _, _⟩ := HL5.out.gr.at_ (i := 6) (by omega) (j := j) (by show j < GL.wh.length * 1; omega);obtain ⟨q5, hq51, hq52, _, hq54⟩ := HL5.out.gr.at_ (i := 5) (by omega) (j := j * 2) (by show j * 2 < M2.ss.length * 2; omega);obtain ⟨q5', hq51', hq52', _, _⟩ := HL5.out.gr.at_ (i := 5) (by omega) (j := j * 2 + 1) (by show j * 2 + 1 < M2.ss.length * 2; omega);rw [hq51] at hq51';injection hq51' with e1; injection e1 with e1; subst e1
      have d6 : wr.cell? ⟨g, 6, none⟩ = some (.slice (some ⟨q6, 0, none⟩) GL.wh.length (M2.rc 6)) := by rw [← hq61]; exact HL5.out.gr.cl (i := 6) (by omega)
      rw [hwl2] at d6;have k6 : wr.cell? ⟨q6, j, none⟩ = some (.int .i64 y) := by
       rw [hq62]; show (GL.wh.map iz)[j]? = _; rw [List.getElem?_map, hy]; rfl
      have HX0 := Hh (show wr.cell? ⟨q5, j * 2, none⟩ = some (.int .i64 ms.t) ∧ wr.cell? ⟨q5, j * 2 + 1, none⟩ = some (.slice ms.a ms.n ms.c) from ⟨hq52.trans (cellsM_at _ _ _ hms).1, hq52'.trans (cellsM_at _ _ _ hms).2⟩);rw [hq51] at d5;have HQ5 := Hh hq51;have hj0 : (0 : Int) ≤ (j : Int) := by omega
      have hj1 : (j : Int) < (GL.seen.length : Int) := by omega
      have d4 := HL5.out.c0;have HMX := Hh hmx;have HOWN2 := Hh (HL5.out.gr.ct.sb ms (List.mem_of_getElem? hms));have hsx : GL.seen.length ≤ 1000000 := by rw [HGE.out.2.1]; exact hsl
      have HSE := Hh (fun h1 h2 => HSEEN.out j x y (by rw [← HGE.out.2.1]; exact hx) (by rw [← HGE.out.2.2.1]; exact hy) h1 h2);clear hx hy hms hmx hq61 hq62 hq51 hq52 hq52' hss hwl2;by_cases hty : t ≤ y
      ·have ty : decide (t ≤ y) = true := decide_eq_true hty;clear hty;go_wp2_with fail;go_quiet (fail)
       have HN := Hh (HL5.out.below (below_drewN wr nq));have HLL := Hh (HLN5.out.drewN nq);go_wp2_with fail;go_roundw
       case rel => exact ⟨j + 1, by go_num, by omega, HN.out, HLL.out⟩
       case measure => simp [intOf]; omega
      ·have ty : decide (t ≤ y) = false := decide_eq_false hty;by_cases hjb : (j : Int) + 1 ≤ bs
       ·have tb : decide ((j : Int) + 1 ≤ bs) = true := decide_eq_true hjb;clear hty hjb;go_wp2_with fail;go_quiet (fail)
        have HN := Hh (HL5.out.below (below_drewN wr nq));have HLL := Hh (HLN5.out.drewN nq);go_wp2_with fail;go_roundw
        case rel => exact ⟨j + 1, by go_num, by omega, HN.out, HLL.out⟩
        case measure => simp [intOf]; omega
       ·have tb : decide ((j : Int) + 1 ≤ bs) = false := decide_eq_false hjb;obtain ⟨hk1, hk2⟩ := HSE.out (by rw [← HT.out]; omega) (by rw [← HBS.out]; omega);have HK := Hh (show R.line.base < (j : Int) + 1 ∧ (j : Int) + 1 ≤ R.line.last from ⟨by rw [← HBS.out]; omega, hk1⟩);have HIX := Hh (show R.line.l.getD ((j : Int) + 1 - R.line.base - 1).toNat (0, []) = ms.it by
         rw [HMX.out, ← hk2]; unfold PRaft.item; rw [if_pos HK.out])
        clear hty hjb hk1 hk2;go_wp2_with fail;go_quiet (fail)
        have HN := Hh (HL5.out.below (below_drewN wr nq));have HLL := Hh (HLN5.out.drewN nq);have HX1 := Hh (show (wr.drewN nq).cell? ⟨q5, j * 2, none⟩ = some (.int .i64 ms.t) ∧ (wr.drewN nq).cell? ⟨q5, j * 2 + 1, none⟩ = some (.slice ms.a ms.n ms.c) from HX0.out);have HOWN3 := Hh (HOWN2.out.below (below_drewN wr nq));obtain ⟨wn, hwn⟩ : ∃ wn, wn = wr.drewN nq := ⟨_, rfl⟩
        rw [← hwn] at HN HLL HX1 HOWN3;go_wp2_with fail;rw [← hwn];refine (lineItemO 0 q R.line hok.line la lc N.ms ((j : Int) + 1) _ HLL.out).mono ?_;intro e w6 hi6;unfold ItemToO at hi6;rw [if_pos HK.out, HIX.out] at hi6;obtain ⟨a6, c6, rfl, hown6, hbe6⟩ := hi6;have HB6 := Hh hbe6;obtain ⟨m1, hm1⟩ : ∃ m1 : MItem, m1 = ⟨ms.t, a6, ms.b.length, c6, ms.b⟩ := ⟨_, rfl⟩
        obtain ⟨V, hV⟩ : ∃ V, V = w6.alloc (.cells #[.int .i64 ms.t, .slice a6 ms.b.length c6] 40) := ⟨_, rfl⟩
        have hbV : Below w6.heap.size w6 V := by rw [hV]; exact (Below.refl _ _).alloc (Nat.le_refl _) _
        have hrV : V.heap[w6.heap.size]? = some (.cells #[.int .i64 m1.t, .slice m1.a m1.n m1.c] 40 (0, 0)) := by rw [hV, hm1]; exact heap_alloc_new w6 _
        have hbnV : Below wn.heap.size wn V := hbe6.trans (hbV.mono hbe6.size);have HLV := Hh (HN.out.below hbnV);have HLLV := Hh (LineAt.below HLL.out hbnV);have HO1 := Hh (show OwnBs 5 V m1 by
         have h9 := OwnBs.below hown6 hbV;rw [hm1]; exact ⟨⟨h9.1.hlen, h9.1.hle, h9.1.hmax, h9.1.hnil, h9.1.hbig, h9.1.hat⟩, h9.2⟩)
        have HO2 := Hh (HOWN3.out.below hbnV);have HSAME := Hh (show decide (([m1] : List MItem).map MItem.it = ([ms] : List MItem).map MItem.it) = true by rw [hm1]; exact decide_eq_true rfl);have hc5 : V.cell? ⟨g, 5, none⟩ = some (.slice (some ⟨q5, 0, none⟩) GL.seen.length (M2.rc 5)) := by
         have h9 := HLV.out.gr.cl (i := 5) (by omega);rw [h9]; unfold rowV;have h8 : rowN GL M2 5 = GL.seen.length := by show M2.ss.length = _; rw [← HLV.out.gr.ct.sq]; simp
         rw [h8, HQ5.out]
        have hcV : V.cell? ⟨q5, j * 2, none⟩ = some (.int .i64 ms.t) ∧ V.cell? ⟨q5, j * 2 + 1, none⟩ = some (.slice ms.a ms.n ms.c) := by
         have hq5 : q5 < wn.heap.size := by rw [hwn]; exact hq54
         exact ⟨(hbnV.cell (p := ⟨q5, j * 2, none⟩) hq5).trans HX1.out.1, (hbnV.cell (p := ⟨q5, j * 2 + 1, none⟩) hq5).trans HX1.out.2⟩
        have HSV := Hh (show SmS g q5 (j * 2) w6.heap.size GL.seen.length (M2.rc 5) m1 ms V from
         ⟨HLV.out.gr.lt (x := .g) rfl, by rw [← HGE.out.2.2.2]; exact HLV.out.gr.cr, hc5, hcV.1, hcV.2, by rw [cell_of_row _ _ 0 _ _ _ hrV]; rfl, by rw [cell_of_row _ _ 1 _ _ _ hrV]; rfl⟩)
        have HV := Hh hV;have HM1 := Hh hm1;have hw6 : w6.heap.size < V.heap.size := (Array.getElem?_eq_some_iff.1 hrV).1;have HRV := Hh hrV;clear d4 d5 d6 k6 hwn hV hbV hrV hbnV hown6 hbe6 hc5 hcV hm1;go_wp2_with fail;rw [← HV.out];refine OpR (S := SmS g q5 (j * 2) w6.heap.size GL.seen.length (M2.rc 5) m1 ms) ?_;have hdr : Below V.heap.size V V.drew := (Below.refl _ _).drew;have hS0 : SmS g q5 (j * 2) w6.heap.size GL.seen.length (M2.rc 5) m1 ms V.drew := ⟨HSV.out.s, HSV.out.r, HSV.out.s5, HSV.out.x0, HSV.out.x1, HSV.out.i0, HSV.out.i1⟩
        refine hT 0 123 hS0 ?_;refine hT 1 124 hS0 ?_;refine hT 2 125 hS0 ?_;refine hT 3 126 hS0 ?_;refine hT 4 127 hS0 ?_;refine hT 5 128 hS0 ?_;refine hT 6 129 hS0 ?_;refine hT 7 130 hS0 ?_;refine hT 8 131 hS0 ?_;refine hT 9 132 hS0 ?_;refine hT 11 134 hS0 ?_;refine hT 15 138 hS0 ?_;refine hT 12 135 hS0 ?_;refine hT 13 136 hS0 ?_;refine hT 14 137 hS0 ?_;refine hT 16 139 hS0 ?_;refine hT 17 140 hS0 ?_;have HS0 := Hh hS0;clear hS0;have HKS := Hh (show ∀ U, Below V.heap.size V U → SmS g q5 (j * 2) w6.heap.size GL.seen.length (M2.rc 5) m1 ms U from fun U hb => by
         have hl9 := HLV.out.below hb;have hg5 : q5 < V.heap.size := by
          have h9 := HSV.out.x0;exact cell_lt9 h9
         exact ⟨Nat.lt_of_lt_of_le HSV.out.s hb.size, (hb.cell (p := ⟨g, 8, none⟩) HSV.out.s).trans HSV.out.r, (hb.cell (p := ⟨g, 5, none⟩) HSV.out.s).trans HSV.out.s5, (hb.cell (p := ⟨q5, j * 2, none⟩) hg5).trans HSV.out.x0, (hb.cell (p := ⟨q5, j * 2 + 1, none⟩) hg5).trans HSV.out.x1, (hb.cell (p := ⟨w6.heap.size, 0, none⟩) hw6).trans HSV.out.i0, (hb.cell (p := ⟨w6.heap.size, 1, none⟩) hw6).trans HSV.out.i1⟩)
        apply wayS (fun U n1 n2 => SmU V m1 ms U n1 n2);intro hway;obtain ⟨UA, hUA⟩ : ∃ UA, UA = ((V.alloc (.cells #[.int .i64 m1.t, .slice m1.a m1.n m1.c] 40)).alloc (.cells #[.int .i64 ms.t, .slice ms.a ms.n ms.c] 40)).drew := ⟨_, rfl⟩
        obtain ⟨UB, hUB⟩ : ∃ UB, UB = ((V.alloc (.cells #[.int .i64 ms.t, .slice ms.a ms.n ms.c] 40)).alloc (.cells #[.int .i64 m1.t, .slice m1.a m1.n m1.c] 40)).drew := ⟨_, rfl⟩
        have HUA := Hh hUA;have HUB := Hh hUB;have hab := SmU.ab V HO1.out HO2.out;have hba := SmU.ba V HO1.out HO2.out;rw [← hUA] at hab;rw [← hUB] at hba;have HAB := Hh hab;have HBA := Hh hba;clear hUA hUB hab hba;have HA1 := Hh (show SmS g q5 (j * 2) w6.heap.size GL.seen.length (M2.rc 5) m1 ms (V.alloc (.cells #[.int .i64 m1.t, .slice m1.a m1.n m1.c] 40)).drew from HKS.out _ (((Below.refl _ V).alloc (Nat.le_refl _) _).drew));have HB1 := Hh (show SmS g q5 (j * 2) w6.heap.size GL.seen.length (M2.rc 5) m1 ms (V.alloc (.cells #[.int .i64 ms.t, .slice ms.a ms.n ms.c] 40)).drew from HKS.out _ (((Below.refl _ V).alloc (Nat.le_refl _) _).drew));have HUAS := Hh (HKS.out _ HAB.out.bl);have HUBS := Hh (HKS.out _ HBA.out.bl);refine Op2 10 18 ?_ ?_
        ·go_simp;refine ⟨HA1.out, ?_⟩;refine Op1 18 ?_;go_simp;rw [← HUA.out];refine ⟨HUAS.out, ?_⟩;have hab := HAB.out;generalize V.heap.size + 1 = n2 at hab ⊢;generalize V.heap.size = n1 at hab ⊢;exact hway UA _ _ hab
        ·go_simp;refine ⟨HB1.out, ?_⟩;refine Op1 10 ?_;go_simp;rw [← HUB.out];refine ⟨HUBS.out, ?_⟩;have hab := HBA.out;generalize V.heap.size + 1 = n2 at hab ⊢;generalize V.heap.size = n1 at hab ⊢;exact hway UB _ _ hab
        intro U n1 n2 hsm;have HSM := Hh hsm;clear hsm;refine Op1 19 ?_;go_simp;refine (r17Same [m1] [ms] (some ⟨n1, 0, none⟩) (some ⟨n2, 0, none⟩) 1 1 1 1 (by omega) U HSM.out.i1 HSM.out.i2).mono ?_;rintro e V9 ⟨rfl, hb9⟩;rw [HSAME.out];have HB9 := Hh (HSM.out.bl.trans (hb9.mono HSM.out.bl.size));have HL9 := Hh (HLV.out.below HB9.out);have HLL9 := Hh (LineAt.below HLLV.out HB9.out);have hS9 := HKS.out _ HB9.out;clear hb9;refine ⟨hS9, ?_⟩;refine hT 20 143 hS9 ?_;refine hT 21 144 hS9 ?_;refine hT 22 145 hS9 ?_;refine Op1 23 ?_;refine wp_store_cell 4 (.tmp 145) (.tmp 143) rfl g 8 (.bool true) _ rfl rfl rfl infoBool8 hS9.r (HL9.out.gr.f 8) ?_;have HR9 := Hh (HL9.out.right HGE.out.2.2.2);have HLLR := Hh (LineAt.set (j := 8) (v := .bool true) HLL9.out HL9.out.gr.row);obtain ⟨W9, hW9⟩ : ∃ W9, W9 = V9.setCell ⟨g, 8, none⟩ (.bool true) := ⟨_, rfl⟩
        have hc9 : ∀ (b k : Nat), b ≠ g → W9.cell? ⟨b, k, none⟩ = V9.cell? ⟨b, k, none⟩ := fun b k hb => by
         rw [hW9];exact cell_far9 (Below.heap_setCell _ _ _ b hb)
        have hqg : q5 ≠ g := fun e => by
         have h9 : M2.own g (.row 5) q5 := ⟨by omega, by rw [HQ5.out]; rfl⟩
         have h8 := HL9.out.gr.dis .g (.row 5) q5 e h9;cases h8
        have hig : w6.heap.size ≠ g := fun e => by
         have h9 := HLV.out.gr.row;rw [← e] at h9;exact absurd (kind_eq h9 HRV.out) (by decide)
        rw [← hW9] at HR9 HLLR ⊢;have hS10 : SmS g q5 (j * 2) w6.heap.size GL.seen.length (M2.rc 5) m1 ms W9 := ⟨HR9.out.gr.lt (x := .g) rfl, by rw [← HGE.out.2.2.2]; exact HR9.out.gr.cr, by
          have h9 := HR9.out.gr.cl (i := 5) (by omega);have h8 := HL9.out.gr.cl (i := 5) (by omega);exact h9.trans (h8.symm.trans hS9.s5), (hc9 _ _ hqg).trans hS9.x0, (hc9 _ _ hqg).trans hS9.x1, (hc9 _ _ hig).trans hS9.i0, (hc9 _ _ hig).trans hS9.i1⟩
        refine ⟨hS10, OpE ?_⟩;clear hS9 hS10 hc9 hqg hig hW9 hdr;go_wp2_with fail;go_roundw
        case rel => exact ⟨j + 1, by go_num, by omega, HR9.out, HLLR.out⟩
        case measure => simp [intOf]; omega
     ·have t2 : decide ((j : Int) < (GL.seen.length : Int)) = false := decide_eq_false (by omega);have t2n : decide (j < GL.seen.length) = false := decide_eq_false hjl;go_wp2_with fail;go_end0;exact ⟨rfl, M2, by rw [← HT.out, ← HGL.out]; exact HL5.out.gr, HM2.out, HL5.out.bl⟩
end
end Go.Proofs.YtogcnfhmcpkdcaaGreat
