/-
  Contracts of raft.New and of what reads a replica.
  Contracts of noteBallot and post: a note, a letter is laid behind the others.
  Contracts of Head and noteItems.
  Contract of noteItems.
  Contract of send.
-/
import Derived.Test.YtogcnfhmcpkdcaaGreatRaftMem
import Derived.Test.YtogcnfhmcpkdcaaGreatPenZ
import Derived.Test.YtogcnfhmcpkdcaaGreatHeldM
import Derived.Test.YtogcnfhmcpkdcaaGreatLetM2
import Derived.Test.YtogcnfhmcpkdcaaGreatLineR
import Derived.Test.YtogcnfhmcpkdcaaGreatLineM9
namespace Go.Proofs.YtogcnfhmcpkdcaaGreat
open Go.RowKit
set_option linter.unusedVariables false
set_option linter.unusedSimpArgs false
theorem RfAt.c {w : World} {p : Nat} {R : PRaft} {M : RMem} (h : RfAt w p R M) {i : Nat} {v : Value} (hi : (rcells R M)[i]? = some v) : w.cell? ⟨p, i, none⟩ = some v := by
 rw [cell_of_row _ _ _ _ _ _ h.row, List.getElem?_toArray]; exact hi
theorem RfAt.f {w : World} {p : Nat} {R : PRaft} {M : RMem} (h : RfAt w p R M) (i : Nat) : w.frozen? ⟨p, i, none⟩ = false := frozen_of_row _ _ _ _ _ h.row
theorem RfAt.tails {w : World} {p : Nat} {R : PRaft} {M : RMem} (h : RfAt w p R M) : w.cell? ⟨p, 32, none⟩ = some (.bool R.jumped) ∧ w.cell? ⟨p, 33, none⟩ = some (.slice M.na M.ns.length M.nc) ∧ w.cell? ⟨p, 34, none⟩ = some (.slice M.oa M.on M.oc) :=
 ⟨h.c (rcells_tail h.sv (j := 0) (by omega)), h.c (rcells_tail h.sv (j := 1) (by omega)), h.c (rcells_tail h.sv (j := 2) (by omega))⟩
section
variable {w : World} {p : Nat} {R : PRaft} {M : RMem}
theorem raftRole (h : RfAt w p R M) : Calls Tryz.prog 20 #[.pointer (some ⟨p, 0, none⟩)] w fun e w' => e = .returned (.int .i64 R.role) ∧ w = w' := by
 have c := h.c (i := 6) rfl;clear h;go_enter Tryz.func20, Tryz.ntmps20
 go_wp2;go_ret;exact ⟨rfl, rfl⟩
theorem raftLeader (h : RfAt w p R M) : Calls Tryz.prog 26 #[.pointer (some ⟨p, 0, none⟩)] w fun e w' => e = .returned (.int .i64 R.lead) ∧ w = w' := by
 have c := h.c (i := 7) rfl;clear h;go_enter Tryz.func26, Tryz.ntmps26
 go_wp2;go_ret;exact ⟨rfl, rfl⟩
theorem raftTerm (h : RfAt w p R M) : Calls Tryz.prog 28 #[.pointer (some ⟨p, 0, none⟩)] w fun e w' => e = .returned (.int .i64 R.bt) ∧ w = w' := by
 have c := h.c (i := 2) rfl;clear h;go_enter Tryz.func28, Tryz.ntmps28
 go_wp2;go_ret;exact ⟨rfl, rfl⟩
theorem raftCommit (h : RfAt w p R M) : Calls Tryz.prog 32 #[.pointer (some ⟨p, 0, none⟩)] w fun e w' => e = .returned (.int .i64 R.commit) ∧ w = w' := by
 have c := h.c (i := 8) rfl;clear h;go_enter Tryz.func32, Tryz.ntmps32
 go_wp2;go_ret;exact ⟨rfl, rfl⟩
theorem raftLast (hg : R.line.Good) (h : RfAt w p R M) : Calls Tryz.prog 83 #[.pointer (some ⟨p, 0, none⟩)] w fun e w' => e = .returned (.int .i64 R.line.last) ∧ ∃ m, w' = w.drewN m := by
 have c := h.c (i := 4) rfl;have HG := Hh hg;have HL := Hh h.ln;clear h hg;go_enter Tryz.func83, Tryz.ntmps83
 go_wp2_with fail;refine (lineLast 0 M.lb R.line HG.out M.la M.lc M.ms _ HL.out).mono ?_;rintro e w1 ⟨rfl, m, rfl⟩;go_wp2;go_ret;exact ⟨rfl, m, rfl⟩
end
theorem LineAt.mono0 {w : World} {base p : Nat} {x : PLine} {la : Option Addr} {lc : Nat} {ms : List MItem} (h : LnAt w base p x la lc ms) : LnAt w 0 p x la lc ms :=
 ⟨h.row, World.ownsRow.mono h.own (Nat.zero_le _), h.its, h.bs, Nat.zero_le _⟩
def newA (lb me n : Value) : Array Value := #[me, n, iz 0, iz (-1), lb, .slice none 0 0, iz 0, iz (-1), iz 0, iz 0, iz 0, iz 0, iz 0, iz 0, iz 0, iz 0, iz 0, iz 0, iz 0, iz 0, iz 0, iz 0, iz 0, iz 0, iz 0, iz 0, iz 0, iz 0, iz 0, iz 0, iz 0, iz 0, .bool false, .slice none 0 0, .slice none 0 0]
theorem built_raft (me n : Int) (lb : Nat) : Tryz.prog.built 84 [(0, iz me), (1, iz n), (2, .agg #[iz 0, iz (-1)]), (3, .pointer (some ⟨lb, 0, none⟩)), (6, iz (-1))] = some (newA (.pointer (some ⟨lb, 0, none⟩)) (iz me) (iz n)) := by kernel_rfl
abbrev newM (lb : Nat) : RMem := ⟨lb, none, 0, [], none, 0, none, 0, [], none, 0, 0, [], []⟩
def Made (p : Nat) (R : PRaft) (M : RMem) (w w' : World) : Prop := RfAt w' p R M ∧ Below w.heap.size w w' ∧ ∀ k, M.own p k → w.heap.size ≤ k
set_option maxRecDepth 100000 in
theorem raftNew_yes (me n : Int) (h1 : 1 ≤ n) (h7 : n ≤ 7) (hm : 0 ≤ me) (hn : me < n) (w : World) :
  Calls Tryz.prog 9 #[.int .i64 me, .int .i64 n] w fun e w' => ∃ p, e = .returned (.pointer (some ⟨p, 0, none⟩)) ∧ ∃ M, Made p (PRaft.new me n) M w w' := by
 have e1 : enough n = n / 2 + 1 := by unfold enough; rw [if_neg (by omega)]
 have t1 : (enough n == 0) = false := by rw [e1]; simp; omega
 have t2 : decide (me < 0) = false := by simp; omega
 have t3 : decide (n ≤ me) = false := by simp; omega
 clear e1;go_enter Tryz.func9, Tryz.ntmps9
 go_wp2_with fail;refine (voteEnough_calls n _).mono ?_;rintro e w1 ⟨rfl, rfl⟩;go_wp2_with fail;refine (lineNew_yes 0 0 (by rfl) _).mono ?_;rintro e w2 ⟨rfl, hl2, hb2, hs2⟩;have HL2 := Hh hl2;have HB2 := Hh hb2;have HS2 := Hh hs2;clear hl2 hb2 hs2;go_wp2_with (first
  | (refine wpList_build_l rfl 84 [(0, .tmp 17), (1, .tmp 18), (2, .tmp 19), (3, .tmp 20), (6, .const (.int .i64 (-1)))] rfl [(0, iz me), (1, iz n), (2, .agg #[iz 0, iz (-1)]), (3, .pointer (some ⟨w.heap.size, 0, none⟩)), (6, iz (-1))] rfl _ (built_raft me n w.heap.size) ?_)
  | (refine wpList_box_abs rfl 84 (.tmp 21) rfl (newA (.pointer (some ⟨w.heap.size, 0, none⟩)) (iz me) (iz n)) rfl ?_; intro W3 hrow3 hb3 hs3; have HR3 := Hh hrow3; have HB3 := Hh hb3; clear hrow3 hb3))
 go_ret;have hl3 : LnAt W3 0 w.heap.size ⟨0, 0, []⟩ none 0 [] := LineAt.mono0 (HL2.out.below HB3.out);refine ⟨w2.heap.size, rfl, newM w.heap.size, ⟨⟨rfl, rfl, rfl⟩, HR3.out, hl3, ?_, ⟨rfl, .inl ⟨rfl, rfl⟩⟩, by simp, rfl, ⟨rfl, .inl ⟨rfl, rfl⟩⟩, rfl, ⟨rfl, rfl, by simp, by simp⟩⟩, HB2.out.trans (HB3.out.mono HB2.out.size), ?_⟩
 ·exact ⟨BsAt.zero _ _ _ _ (by simp [maxLen]) (fun _ => rfl), fun h9 => by simp [PRaft.new] at h9⟩
 ·rintro k (rfl | rfl | h9 | h9 | h9)
  ·exact HB2.out.size
  ·exact Nat.le_refl _
  ·simp at h9
  ·simp at h9
  ·simp at h9
theorem raftNew_no (me n : Int) (h : ¬ (1 ≤ n ∧ n ≤ 7 ∧ 0 ≤ me ∧ me < n)) (w : World) :
  Calls Tryz.prog 9 #[.int .i64 me, .int .i64 n] w fun e w' => e = .returned (.pointer none) ∧ w = w' := by
 by_cases h1 : 1 ≤ n ∧ n ≤ 7
 ·have e1 : enough n = n / 2 + 1 := by unfold enough; rw [if_neg (by omega)]
  have t1 : (enough n == 0) = false := by rw [e1]; simp; omega
  clear e1;by_cases h2 : me < 0
  ·have t2 : decide (me < 0) = true := by simpa using h2
   clear h h1 h2;go_enter Tryz.func9, Tryz.ntmps9
   go_wp2_with fail;refine (voteEnough_calls n _).mono ?_;rintro e w1 ⟨rfl, rfl⟩;go_wp2;go_ret;exact ⟨rfl, rfl⟩
  ·have t2 : decide (me < 0) = false := by simpa using h2
   have t3 : decide (n ≤ me) = true := by simp; omega
   clear h h1 h2;go_enter Tryz.func9, Tryz.ntmps9
   go_wp2_with fail;refine (voteEnough_calls n _).mono ?_;rintro e w1 ⟨rfl, rfl⟩;go_wp2;go_ret;exact ⟨rfl, rfl⟩
 ·have e1 : enough n = 0 := by unfold enough; rw [if_pos (by omega)]
  have t1 : (enough n == 0) = true := by rw [e1]; rfl
  clear e1 h h1;go_enter Tryz.func9, Tryz.ntmps9
  go_wp2_with fail;refine (voteEnough_calls n _).mono ?_;rintro e w1 ⟨rfl, rfl⟩;go_wp2;go_ret;exact ⟨rfl, rfl⟩
end Go.Proofs.YtogcnfhmcpkdcaaGreat
namespace Go.Proofs.YtogcnfhmcpkdcaaGreat
open Go.RowKit
set_option linter.unusedVariables false
set_option linter.unusedSimpArgs false
theorem infoBytes9 : (Tryz.prog.info? 27).map (fun i => (i.zero, i.size, i.bytes)) = some (some (.slice none 0 0), 1, 24) := by kernel_rfl
theorem infoBytesS : (Tryz.prog.info? 29).map (·.size) = some 1 := by kernel_rfl
theorem infoPosts : (Tryz.prog.info? 51).map (·.size) = some 1 := by kernel_rfl
theorem infoPost : (Tryz.prog.info? 102).map (fun i => (i.zero, i.size, i.bytes)) = some (some (.agg #[iz 0, iz 0, iz 0, iz 0, iz 0, iz 0, .bool false, .slice none 0 0, .slice none 0 0]), 9, 104) := by kernel_rfl
theorem pen_new {w W : World} (hr : W.heap[w.heap.size]? = some (.cells #[.slice none 0 0] 86 (0, 0))) : PenAt 5 W w.heap.size (.slice none 0 0) [] :=
 ⟨(Array.getElem?_eq_some_iff.1 hr).1, cell_of_row W _ 0 _ _ _ hr, frozen_of_row _ _ _ _ _ hr, ⟨rfl, .inl ⟨rfl, rfl⟩⟩⟩
theorem wayU {G : World → Prop} {P : Prop} (F : World → Prop) (main : (∀ U, F U → G U) → P) (key : ∀ U, F U → G U) : P := main key
structure PZ (p : Nat) (W : World) : Prop where
 s : p < W.heap.size
structure NoteW (p : Nat) (R : PRaft) (M : RMem) (w : World) (L : List UInt8) (U : World) (n : Nat) (a4 : Option Addr) (c4 : Nat) : Prop where
 rf : RfAt U p R M
 it : SlAt U U.heap.size 1 (some ⟨n, 0, none⟩) 1 1 [.slice a4 L.length c4]
 by_ : ByAt U a4 c4 L
 bel : Below w.heap.size w U
set_option maxRecDepth 100000 in
set_option maxHeartbeats 1000000 in
theorem raftNoteBallot (p : Nat) (R : PRaft) (M : RMem) (hb0 : 0 ≤ R.bt) (hb1 : R.bt ≤ 1099511627776) (hf0 : -1 ≤ R.bf) (hf1 : R.bf ≤ 6) (hn : R.news.length ≤ 1000000000) (w : World) (h : RfAt w p R M) :
  Calls Tryz.prog 44 #[.pointer (some ⟨p, 0, none⟩)] w fun e w' => e = .returned (.tuple #[]) ∧ ∃ M', RfAt w' p R.noteBallot M' ∧ RTouch p M M' w w' := by
 obtain ⟨j0, gi, gz0, gz1, gz2⟩ := info_parts infoBytes9;obtain ⟨B, hB⟩ : ∃ B : Nat, R.bt = B := ⟨R.bt.toNat, by omega⟩
 obtain ⟨F, hF⟩ : ∃ F : Nat, R.bf + 1 = F := ⟨(R.bf + 1).toNat, by omega⟩
 obtain ⟨f, hf⟩ : ∃ f : Int, R.bf = f := ⟨_, rfl⟩
 have w1 : IntKind.u64.wrap (B : Int) = B := IntWalk.u64_in _ (by omega);have w2 : IntKind.i64.wrap (f + 1) = (F : Int) := by rw [← hf, hF]; exact IntWalk.i64_in _ (by omega)
 have w3 : IntKind.u64.wrap (F : Int) = F := IntWalk.u64_in _ (by omega);have hB1 : B ≤ 1099511627776 := by omega
 have hF1 : F ≤ 7 := by omega
 have HNOTE := Hh (show ballotNote R.bt R.bf = putNum 1 ++ (putNum B ++ putNum F) by rw [ballotNote, hB, hF]; simp);obtain ⟨W0, hW0⟩ : ∃ W0, W0 = w.alloc (.cells #[.slice none 0 0] 86) := ⟨_, rfl⟩
 have HW0 := Hh hW0;have hbW : Below w.heap.size w W0 := by rw [hW0]; exact (Below.refl _ _).alloc (Nat.le_refl _) _
 have hp0 := pen_new (w := w) (W := W0) (by rw [hW0]; exact heap_alloc_new w _);have HP0 := Hh hp0;have HB0 := Hh hbW;have HR := Hh h;have hns : M.ns.length ≤ 1000000000 := by rw [← h.nq] at hn; simpa using hn
 have HBB := Hh hB;have HFF := Hh hf;have hpl := h.lt;clear hB hF hf hW0 hbW hp0 h hn hb0 hb1 hf0 hf1;go_enter Tryz.func44, Tryz.ntmps44
 go_wp2_with fail;rw [← HW0.out];refine (penNumB w.heap.size 1 (by omega) _ [] (by simp) _ HP0.out).mono ?_;rintro e V1 ⟨rfl, v1, L1, hL1, hl1, hp1, hb1⟩;have HP1 := Hh hp1;have HB1 := Hh (HB0.out.trans hb1);have HL1 := Hh hL1;have hle1 : L1.length ≤ 9 := by simpa using hl1
 have hr1 := HR.out.below HB1.out;have c2 : V1.cell? ⟨p, 2, none⟩ = some (.int .i64 (B : Int)) := by rw [← HBB.out]; exact hr1.c rfl
 clear hp1 hb1 hL1 hl1 hr1;go_wp2_with fail;refine (penNumB w.heap.size B (by omega) _ L1 (by omega) _ HP1.out).mono ?_;rintro e V2 ⟨rfl, v2, L2, hL2, hl2, hp2, hb2⟩;have HP2 := Hh hp2;have HB2 := Hh (HB1.out.trans hb2);have HL2 := Hh hL2;have hle2 : L2.length ≤ 18 := by omega
 have hr2 := HR.out.below HB2.out;have c3 : V2.cell? ⟨p, 3, none⟩ = some (.int .i64 f) := by rw [← HFF.out]; exact hr2.c rfl
 clear hp2 hb2 hL2 hl2 hr2 c2;go_wp2_with fail;refine (penNumB w.heap.size F (by omega) _ L2 (by omega) _ HP2.out).mono ?_;rintro e V3 ⟨rfl, v3, L3, hL3, hl3, hp3, hb3⟩;have HP3 := Hh hp3;have HB3 := Hh (HB2.out.trans hb3);have hle3 : L3.length ≤ 27 := by omega
 have HL3 := Hh (show L3 = ballotNote R.bt R.bf by rw [HNOTE.out, hL3, HL2.out, HL1.out]; simp);have HR3 := Hh (HR.out.below HB3.out);clear hp3 hb3 hL3 hl3 c3;go_wp2_with fail;refine OpR (S := PZ p) ?_;have hdr : Below V3.heap.size V3 V3.drew := (Below.refl _ _).drew;have HR9 := Hh (HR3.out.below hdr);have hS0 : PZ p V3.drew := ⟨HR9.out.lt⟩
 refine hT 0 19 hS0 ?_;refine hT 1 20 hS0 ?_;refine hT 2 21 hS0 ?_;refine hT 3 22 hS0 ?_;have HS0 := Hh hS0;clear hS0;apply wayR (fun U n a4 c4 => NoteW p R M w L3 U n a4 c4);intro hway;refine Op2 4 5 ?_ ?_
 ·have p4 := HR9.out.tails.2.1;go_simp;clear p4;refine ⟨HS0.out, ?_⟩;refine Op1 5 ?_;go_simp;refine (penBytes w.heap.size _ L3 (by omega) _ (HP3.out.below hdr)).mono ?_;rintro e V9 ⟨a4, c4, rfl, -, hb9, ho9⟩;have hS9 : PZ p V9 := ⟨Nat.lt_of_lt_of_le HS0.out.s hb9.size⟩
  obtain ⟨U, hU⟩ : ∃ U, U = V9.alloc (.cells #[.slice a4 L3.length c4] 27) := ⟨_, rfl⟩
  have hbU : Below V9.heap.size V9 U := by rw [hU]; exact (Below.refl _ _).alloc (Nat.le_refl _) _
  have hbVU : Below V3.heap.size V3 U := hdr.trans (hb9.trans (hbU.mono hb9.size));have hNW : NoteW p R M w L3 U V9.heap.size a4 c4 := by
   refine ⟨HR3.out.below hbVU, ?_, (OwnBs.of_own ho9 (by omega)).below hbU, HB3.out.trans (hbVU.mono HB3.out.size)⟩;rw [show U.heap.size = V9.heap.size + 1 by rw [hU]; simp, hU];exact slAt_one V9 _ _
  have hSU : PZ p U := ⟨hNW.rf.lt⟩
  have p9 := HR9.out.below hb9;have HP9 := Hh p9;have HU := Hh hU;have HNW := Hh hNW;have HSU := Hh hSU;have HS9 := Hh hS9;clear hb9 ho9 hU hbU hbVU hNW hSU p9;refine ⟨hS9, ?_⟩;clear hS9;refine Op1 6 ?_;go_simp;rw [← HU.out];refine ⟨HSU.out, ?_⟩;have hnw := HNW.out;generalize V9.heap.size = n at hnw ⊢;exact hway U n a4 c4 hnw
 ·go_simp;refine (penBytes w.heap.size _ L3 (by omega) _ (HP3.out.below hdr)).mono ?_;rintro e V9 ⟨a4, c4, rfl, -, hb9, ho9⟩;have hS9 : PZ p V9 := ⟨Nat.lt_of_lt_of_le HS0.out.s hb9.size⟩
  obtain ⟨U, hU⟩ : ∃ U, U = V9.alloc (.cells #[.slice a4 L3.length c4] 27) := ⟨_, rfl⟩
  have hbU : Below V9.heap.size V9 U := by rw [hU]; exact (Below.refl _ _).alloc (Nat.le_refl _) _
  have hbVU : Below V3.heap.size V3 U := hdr.trans (hb9.trans (hbU.mono hb9.size));have hNW : NoteW p R M w L3 U V9.heap.size a4 c4 := by
   refine ⟨HR3.out.below hbVU, ?_, (OwnBs.of_own ho9 (by omega)).below hbU, HB3.out.trans (hbVU.mono HB3.out.size)⟩;rw [show U.heap.size = V9.heap.size + 1 by rw [hU]; simp, hU];exact slAt_one V9 _ _
  have hSU : PZ p U := ⟨hNW.rf.lt⟩
  have p9 := HR9.out.below hb9;have HP9 := Hh p9;have HU := Hh hU;have HNW := Hh hNW;have HSU := Hh hSU;have HS9 := Hh hS9;clear hb9 ho9 hU hbU hbVU hNW hSU p9;refine ⟨hS9, ?_⟩;clear hS9;refine Op2 4 6 ?_ ?_
  ·have p4 := HP9.out.tails.2.1;go_simp;clear p4;refine ⟨HS9.out, ?_⟩;refine Op1 6 ?_;go_simp;rw [← HU.out];refine ⟨HSU.out, ?_⟩;have hnw := HNW.out;generalize V9.heap.size = n at hnw ⊢;exact hway U n a4 c4 hnw
  ·go_simp;rw [← HU.out];refine ⟨HSU.out, ?_⟩;refine Op1 4 ?_;have p4 := HNW.out.rf.tails.2.1;go_simp;clear p4;refine ⟨HSU.out, ?_⟩;have hnw := HNW.out;generalize V9.heap.size = n at hnw ⊢;exact hway U n a4 c4 hnw
 intro U n a4 c4 hnw;have HRU := Hh hnw.rf;have HIT := Hh hnw.it;have HBY := Hh hnw.by_;have HBU := Hh hnw.bel;clear hnw;refine Op1 7 ?_;refine wp_append_sl U (.tmp 23) (.tmp 25) 29 rfl 0 27 j0 (.slice none 0 0) 1 24 Tryz.underlying29 gi gz0 gz1 gz2 rfl (by decide) (.slice M.na M.ns.length M.nc) M.ns.length (M.ns.map MNote.cell) rfl HRU.out.nw U.heap.size (some ⟨n, 0, none⟩) 1 1 [.slice a4 L3.length c4] rfl HIT.out (by intro u hu; simp at hu; subst hu; rfl) (by unfold maxLen; omega) (by omega) (Nat.zero_le _) ?_;intro a11 c11 W11 o11 g11 hat11;obtain ⟨hr12, ht12⟩ := HRU.out.note (m := ⟨a4, c4, L3⟩) HBY.out o11 g11 hat11;have hrow11 : W11.heap[p]? = some (.cells (rcells R M).toArray 84 (0, 0)) := (g11.block p HRU.out.lt (fun e => HRU.out.apart.2.2.1 (by rw [ownBlock_eq] at e; exact e.symm))).trans HRU.out.row;have hS11 : PZ p W11 := ⟨Nat.lt_of_lt_of_le HRU.out.lt g11.size⟩
 have p2 : W11.cell? ⟨p, 33, none⟩ = some (.slice M.na M.ns.length M.nc) := by rw [cell_of_row _ _ _ _ _ _ hrow11, List.getElem?_toArray]; exact rcells_tail HRU.out.sv (j := 1) (by omega)
 have f2 : W11.frozen? ⟨p, 33, none⟩ = false := frozen_of_row _ _ _ _ _ hrow11;refine ⟨hS11, ?_⟩;go_simp;refine hT 8 27 hS11 ?_;refine hT 9 28 hS11 ?_;refine Op1 10 ?_;refine wp_store_cell 29 (.tmp 28) (.tmp 26) rfl p 33 (.slice a11 (M.ns.length + 1) c11) _ rfl rfl rfl infoBytesS p2 f2 ?_;obtain ⟨W12, hW12⟩ : ∃ W12, W12 = W11.setCell ⟨p, 33, none⟩ (.slice a11 (M.ns.length + 1) c11) := ⟨_, rfl⟩
 rw [← hW12] at hr12 ht12 ⊢;have HR12 := Hh hr12;have HT12 := Hh ht12;have hS12 : PZ p W12 := ⟨hr12.lt⟩
 refine ⟨hS12, OpE ?_⟩;clear hS11 hS12 p2 f2 hrow11 hr12 ht12 hW12 o11 g11 hat11 hdr;go_wp2;go_end0;refine ⟨rfl, _, ?_, RTouch.trans (.ofBelow HBU.out) HT12.out⟩;rw [show R.noteBallot = { R with news := R.news ++ [L3] } by rw [HL3.out]; rfl];exact HR12.out
theorem own_mono0 {w : World} {B e size n : Nat} {v : Value} {xs : List Value} (h : w.ownsRow B e size v n xs) : w.ownsRow 0 e size v n xs := by
 refine ⟨h.1, ?_⟩;rcases h.2 with ⟨e1, hn⟩ | ⟨g, cap, cur, e1, h1, h2⟩
 ·exact .inl ⟨e1, hn⟩
 ·exact .inr ⟨g, cap, cur, e1, Nat.zero_le _, h2⟩
theorem RfAt.notNew {w : World} {p : Nat} {R : PRaft} {M : RMem} (h : RfAt w p R M) {b : Nat} (hb : w.heap.size ≤ b) : ¬ M.own p b := fun h9 => by
 rcases h9 with e | e | e | e | e
 ·have := h.lt; omega
 ·have := (Array.getElem?_eq_some_iff.1 h.ln.row).1; omega
 ·obtain ⟨cur, hc⟩ := own_kind h.ln.own e; have := (Array.getElem?_eq_some_iff.1 hc).1; omega
 ·obtain ⟨cur, hc⟩ := own_kind h.nw e; have := (Array.getElem?_eq_some_iff.1 hc).1; omega
 ·obtain ⟨cur, hc⟩ := own_kind h.ou e; have := (Array.getElem?_eq_some_iff.1 hc).1; omega
structure PB (p b : Nat) (x : PLet) (ia : Option Addr) (n ic : Nat) (ba : Option Addr) (bc : Nat) (W : World) : Prop where
 s : p < W.heap.size
 b : W.heap[b]? = some (.cells (lcell x ia n ic ba bc) 32 (0, 0))
set_option maxRecDepth 100000 in
set_option maxHeartbeats 1000000 in
theorem raftPostX (p : Nat) (R : PRaft) (M : RMem) (who : Int) (x : PLet) (ia : Option Addr) (il ic : Nat) (ba : Option Addr) (bc : Nat) (hn : R.out.length ≤ 1000000000) (w : World) (h : RfAt w p R M) {ms : List MItem} (hil : ms.length = il) (hmA : MPost.At w ⟨who, x, ia, ic, ms, ba, bc⟩) (hmN : ∀ k, ia.map (·.block) = some k → ¬ M.own p k) :
  Calls Tryz.prog 67 #[.pointer (some ⟨p, 0, none⟩), .int .i64 who, .agg (lcell x ia il ic ba bc)] w fun e w' => e = .returned (.tuple #[]) ∧ ∃ M', RfAt w' p (R.post who x) M' ∧ RTouch p M M' w w' ∧ M'.lb = M.lb := by
 obtain ⟨j0, gi, gz0, gz1, gz2⟩ := info_parts infoPost;obtain ⟨y, hy⟩ : ∃ y : PLet, y = { x with t := R.bt } := ⟨_, rfl⟩
 obtain ⟨V, hV⟩ : ∃ V, V = w.alloc (.cells #[.int .i64 x.k, .int .i64 R.bt, .int .i64 x.a, .int .i64 x.u, .int .i64 x.o, .bool x.y, .slice ia il ic, .slice ba x.b.length bc] 32) := ⟨_, rfl⟩
 have hrowV : V.heap[w.heap.size]? = some (.cells (lcell y ia il ic ba bc) 32 (0, 0)) := by rw [hV, hy]; exact heap_alloc_new w _
 have hbV : Below w.heap.size w V := by rw [hV]; exact (Below.refl _ _).alloc (Nat.le_refl _) _
 have hpl := h.lt;have HBV := Hh hbV;have HMA := Hh (show MPost.At w ⟨who, y, ia, ic, ms, ba, bc⟩ by rw [hy]; exact ⟨hmA.own, hmA.eq, hmA.b⟩);have HMN := Hh hmN;have HIL := Hh hil;clear hmA hmN hil;have HROW := Hh hrowV;have HRV := Hh (h.below hbV);have hon : M.on ≤ 1000000000 := by rw [h.oq]; exact hn
 have HPOST := Hh (show R.post who x = { R with out := R.out ++ [(who, y)] } by rw [hy]; rfl);have c2 : (w.alloc (.cells (lcell x ia il ic ba bc) 32)).cell? ⟨p, 2, none⟩ = some (.int .i64 R.bt) := (h.below ((Below.refl _ _).alloc (Nat.le_refl _) _)).c rfl;have HV := Hh hV;clear hV hrowV hbV h hn hy;go_enter Tryz.func67, Tryz.ntmps67
 go_wp2_with fail;rw [← HV.out];clear c2;refine OpR (S := PB p w.heap.size y ia il ic ba bc) ?_;have hdr : Below V.heap.size V V.drew := (Below.refl _ _).drew;have hr9 := HRV.out.below hdr;have hwV : w.heap.size < V.heap.size := (Array.getElem?_eq_some_iff.1 HROW.out).1;have hS0 : PB p w.heap.size y ia il ic ba bc V.drew := ⟨hr9.lt, (hdr.block _ hwV).trans HROW.out⟩
 have HR9 := Hh hr9;clear hr9;refine hT 0 12 hS0 ?_;refine hT 1 13 hS0 ?_;refine hT 2 14 hS0 ?_;refine hT 3 15 hS0 ?_;refine hT 5 17 hS0 ?_;refine heldTake 6 18 (v := .agg (lcell y ia il ic ba bc)) rfl rfl (by kernel_rfl) (by kernel_rfl) (by kernel_rfl) (fun _ _ _ h => h) hS0 (.inl ⟨by rfl, by intro w' hS; obtain ⟨c0, c1, c2, c3, c4, c5, c6, c7⟩ := letCells hS.b; clear hS; go_simp; (try (all_goals rfl))⟩) ?_;simp only [List.set_cons_zero, List.set_cons_succ];refine heldTake 7 19 (v := .agg #[.int .i64 who, .int .i64 y.k, .int .i64 y.t, .int .i64 y.a, .int .i64 y.u, .int .i64 y.o, .bool y.y, .slice ia il ic, .slice ba y.b.length bc]) rfl rfl (by kernel_rfl) (by kernel_rfl) (by kernel_rfl) (fun _ _ _ h => h) hS0 (.inl ⟨by rfl, by intro w' hS; clear hS; go_simp; (try (all_goals rfl))⟩) ?_;simp only [List.set_cons_zero, List.set_cons_succ];have HS0 := Hh hS0;clear hS0;obtain ⟨U, hU⟩ : ∃ U, U = (V.alloc (.cells #[.int .i64 who, .int .i64 y.k, .int .i64 y.t, .int .i64 y.a, .int .i64 y.u, .int .i64 y.o, .bool y.y, .slice ia il ic, .slice ba y.b.length bc] 102)).drew := ⟨_, rfl⟩
 have hbU : Below V.heap.size V U := by rw [hU]; exact ((Below.refl _ _).alloc (Nat.le_refl _) _).drew
 have hsU : U.heap.size = V.heap.size + 1 := by rw [hU]; simp
 have HRU := Hh (HRV.out.below hbU);have HBU := Hh (HBV.out.trans (hbU.mono HBV.out.size));have HIT := Hh (show SlAt U U.heap.size 9 (some ⟨V.heap.size, 0, none⟩) 1 1 [.int .i64 who, .int .i64 y.k, .int .i64 y.t, .int .i64 y.a, .int .i64 y.u, .int .i64 y.o, .bool y.y, .slice ia il ic, .slice ba y.b.length bc] from by
  rw [hsU, hU];exact (slAt_item V #[.int .i64 who, .int .i64 y.k, .int .i64 y.t, .int .i64 y.a, .int .i64 y.u, .int .i64 y.o, .bool y.y, .slice ia il ic, .slice ba y.b.length bc] 102 9 rfl).below (show Below (V.heap.size + 1) (V.alloc (.cells #[.int .i64 who, .int .i64 y.k, .int .i64 y.t, .int .i64 y.a, .int .i64 y.u, .int .i64 y.o, .bool y.y, .slice ia il ic, .slice ba y.b.length bc] 102)) _ from (Below.refl _ _).drew) (Nat.le_refl _))
 have HSU := Hh (show PB p w.heap.size y ia il ic ba bc U from ⟨HRU.out.lt, (hbU.block _ hwV).trans HROW.out⟩);have HU := Hh hU;clear hU hbU;apply wayU (fun U' => U' = U);intro hway;refine Op2 4 8 ?_ ?_
 ·have p4 := HR9.out.tails.2.2;go_simp;clear p4;refine ⟨HS0.out, ?_⟩;refine Op1 8 ?_;go_simp;rw [← HU.out];refine ⟨HSU.out, ?_⟩;exact hway U rfl
 ·go_simp;rw [← HU.out];refine ⟨HSU.out, ?_⟩;refine Op1 4 ?_;have p4 := HRU.out.tails.2.2;go_simp;clear p4;refine ⟨HSU.out, ?_⟩;exact hway U rfl
 rintro U' rfl;refine Op1 9 ?_;refine wp_append_sl U' (.tmp 16) (.tmp 20) 51 rfl 0 102 j0 (.agg #[iz 0, iz 0, iz 0, iz 0, iz 0, iz 0, .bool false, .slice none 0 0, .slice none 0 0]) 9 104 Tryz.underlying51 gi gz0 gz1 gz2 rfl (by decide) (.slice M.oa M.on M.oc) M.on M.ocs rfl HRU.out.ou U'.heap.size (some ⟨V.heap.size, 0, none⟩) 1 1 _ rfl HIT.out (by intro u hu; simp at hu; rcases hu with rfl | rfl | rfl | rfl | rfl | rfl | rfl | rfl | rfl <;> rfl) (by unfold maxLen; omega) (by omega) (Nat.zero_le _) ?_;intro a11 c11 W11 o11 g11 hat11;have hmU : MPost.At U' ⟨who, y, ia, ic, ms, ba, bc⟩ := HMA.out.below HBU.out;have hcm : MPost.cells ⟨who, y, ia, ic, ms, ba, bc⟩ = [.int .i64 who, .int .i64 y.k, .int .i64 y.t, .int .i64 y.a, .int .i64 y.u, .int .i64 y.o, .bool y.y, .slice ia il ic, .slice ba y.b.length bc] := by rw [← HIL.out]; rfl
 rw [← hcm] at o11;obtain ⟨hr12, ht12⟩ := HRU.out.posted hmU HMN.out o11 g11 hat11;clear hmU hcm;have hrow11 : W11.heap[p]? = some (.cells (rcells R M).toArray 84 (0, 0)) := (g11.block p HRU.out.lt (fun e => HRU.out.apart.2.2.2.1 (by rw [ownBlock_eq] at e; exact e.symm))).trans HRU.out.row;have hbox11 : W11.heap[w.heap.size]? = some (.cells (lcell y ia il ic ba bc) 32 (0, 0)) := (g11.block w.heap.size (Array.getElem?_eq_some_iff.1 HSU.out.b).1 (fun e => by
  rw [ownBlock_eq] at e;obtain ⟨cur, hc⟩ := own_kind HRU.out.ou e.symm;exact absurd (kind_eq HSU.out.b hc) (by decide))).trans HSU.out.b
 have hS11 : PB p w.heap.size y ia il ic ba bc W11 := ⟨Nat.lt_of_lt_of_le HRU.out.lt g11.size, hbox11⟩
 have p2 : W11.cell? ⟨p, 34, none⟩ = some (.slice M.oa M.on M.oc) := by rw [cell_of_row _ _ _ _ _ _ hrow11, List.getElem?_toArray]; exact rcells_tail HRU.out.sv (j := 2) (by omega)
 have f2 : W11.frozen? ⟨p, 34, none⟩ = false := frozen_of_row _ _ _ _ _ hrow11;refine ⟨hS11, ?_⟩;go_simp;refine hT 10 22 hS11 ?_;refine hT 11 23 hS11 ?_;refine Op1 12 ?_;refine wp_store_cell 51 (.tmp 23) (.tmp 21) rfl p 34 (.slice a11 (M.on + 1) c11) _ rfl rfl rfl infoPosts p2 f2 ?_;obtain ⟨W12, hW12⟩ : ∃ W12, W12 = W11.setCell ⟨p, 34, none⟩ (.slice a11 (M.on + 1) c11) := ⟨_, rfl⟩
 have hbox12 : W12.heap[w.heap.size]? = some (.cells (lcell y ia il ic ba bc) 32 (0, 0)) := by rw [hW12]; exact (Below.heap_setCell _ _ _ _ (by show w.heap.size ≠ p; omega)).trans hbox11
 rw [← hW12] at hr12 ht12 ⊢;have HR12 := Hh hr12;have HT12 := Hh ht12;have hS12 : PB p w.heap.size y ia il ic ba bc W12 := ⟨hr12.lt, hbox12⟩
 refine ⟨hS12, OpE ?_⟩;clear hS11 hS12 p2 f2 hrow11 hr12 ht12 hW12 o11 g11 hat11 hdr hbox11 hbox12;go_wp2;go_end0;refine ⟨rfl, _, ?_, RTouch.trans (.ofBelow HBU.out) HT12.out, rfl⟩;rw [HPOST.out];exact HR12.out
theorem raftPost (p : Nat) (R : PRaft) (M : RMem) (who : Int) (x : PLet) (ia : Option Addr) (il ic : Nat) (ba : Option Addr) (bc : Nat) (hn : R.out.length ≤ 1000000000) (w : World) (h : RfAt w p R M) {ms : List MItem} (hil : ms.length = il) (hmA : MPost.At w ⟨who, x, ia, ic, ms, ba, bc⟩) (hmN : ∀ k, ia.map (·.block) = some k → ¬ M.own p k) :
  Calls Tryz.prog 67 #[.pointer (some ⟨p, 0, none⟩), .int .i64 who, .agg (lcell x ia il ic ba bc)] w fun e w' => e = .returned (.tuple #[]) ∧ ∃ M', RfAt w' p (R.post who x) M' ∧ RTouch p M M' w w' :=
 (raftPostX p R M who x ia il ic ba bc hn w h hil hmA hmN).mono fun e w' ⟨h1, M', h2, h3, _⟩ => ⟨h1, M', h2, h3⟩
theorem cloneBy (l : List UInt8) (a : Option Addr) (c : Nat) (w : World) (h : BsAt w w.heap.size a l.length c l) :
  Calls Tryz.prog 55 #[.slice a l.length c] w fun e w' => ∃ a' c', e = .returned (.slice a' l.length c') ∧ ByAt w' a' c' l ∧ Below w.heap.size w w' :=
 (cloneB l a l.length c w h).mono fun e w' ⟨a', c', h1, _, h3, h4⟩ => ⟨a', c', h1, OwnBs.of_own h4 h.hbig, h3⟩
theorem byNil (w : World) : ByAt w none 0 [] := ⟨BsAt.zero _ _ _ _ (by simp [maxLen]) (fun _ => rfl), fun h => by simp at h⟩
theorem own_nil0 (w : World) : ItemsOwn w 0 none 0 [] := ⟨⟨rfl, .inl ⟨rfl, rfl⟩⟩, by simp⟩
theorem raftPost0 (p : Nat) (R : PRaft) (M : RMem) (who : Int) (x : PLet) (hx : x.its = []) (hb : x.b = []) (hn : R.out.length ≤ 1000000000) (w : World) (h : RfAt w p R M) :
  Calls Tryz.prog 67 #[.pointer (some ⟨p, 0, none⟩), .int .i64 who, .agg (lcell x none 0 0 none 0)] w fun e w' => e = .returned (.tuple #[]) ∧ ∃ M', RfAt w' p (R.post who x) M' ∧ RTouch p M M' w w' :=
 raftPost p R M who x none 0 0 none 0 hn w h (ms := []) rfl ⟨own_nil0 w, by rw [hx]; rfl, by show ByAt w none 0 x.b; rw [hb]; exact byNil w⟩ (fun k hk => by cases hk)
end Go.Proofs.YtogcnfhmcpkdcaaGreat
namespace Go.Proofs.YtogcnfhmcpkdcaaGreat
open Go.RowKit
set_option linter.unusedVariables false
set_option linter.unusedSimpArgs false
set_option maxRecDepth 100000 in
set_option maxHeartbeats 2000000 in
theorem penTextX (q : Nat) (v : Value) (l : List UInt8) (hl : l.length ≤ 1000000) (m : List UInt8) (am : Option Addr) (c : Nat) (hn : m.length ≤ 1000000) (w : World) (hm : ∀ w1 v1, Penned q v w w1 v1 → BsAt w1 w1.heap.size am m.length c m) (h : PenAt 5 w q v l) :
  Calls Tryz.prog 36 #[.pointer (some ⟨q, 0, none⟩), .slice am m.length c] w fun e w' => e = .returned (.tuple #[]) ∧ ∃ v', PenAt 5 w' q v' (l ++ putText m) ∧ Penned q v w w' v' := by
 obtain ⟨i0, hi, hz0, hz1, hz2⟩ := info_parts infoU8;have H := Hh h;have HM := Hh hm;clear h hm;go_enter Tryz.func36, Tryz.ntmps36
 go_wp2_with fail;refine (penNum q m.length (by omega) v l hl w H.out).mono ?_;rintro e w1 ⟨rfl, v1, hp1, ht1⟩;have HM1 := Hh (HM.out _ _ ht1);obtain ⟨L, hL⟩ : ∃ L, L = l ++ putNum m.length := ⟨_, rfl⟩
 have hpl : L.length ≤ 1000009 := by have := le_len8 (show m.length < 18446744073709551616 by omega); rw [hL]; simp [putNum]; omega
 rw [← hL] at hp1;have HL := Hh hL;have HP1 := Hh hp1;have HT1 := Hh ht1;have hc1 := hp1.cell;have hf1 := hp1.free;have hsz := hp1.lt;clear hp1 ht1 hL;go_wp2_with (at_builtin; refine wpList_append_sl _ rfl _ _ 27 rfl (q + 1) 5 i0 (.int .u8 0) 1 1 Tryz.underlying27 hi hz0 hz1 hz2 rfl (by decide) _ _ _ rfl HP1.out.own w1.heap.size am m.length c (m.map bv) rfl HM1.out.sl (bvs_oneCell _) ?c1 ?c2 ?c3 ?_)
 case c1 => unfold maxLen; omega
 case c2 => omega
 case c3 => omega
 intro a2 c2 w2 hown hgrow hat;obtain ⟨hc2, hf2⟩ := HP1.out.far hgrow;have hfin := HP1.out.append hown hgrow hat;have HF := Hh hfin;clear hown hgrow hat hfin;go_wp2;go_end0;obtain ⟨f1, f2⟩ := HF.out;exact ⟨rfl, _, by rw [putText, ← List.append_assoc, ← HL.out]; exact f1, HT1.out.trans f2⟩
theorem Penned.apart {q B : Nat} {v v1 : Value} {w w1 : World} (ht : Penned q v w w1 v1) {a : Option Addr} {c : Nat} {m : List UInt8} (ho : w.ownsRow B 5 1 (.slice a m.length c) m.length (m.map bv)) (hm : m.length ≤ 1000000) (hq : q < B) (hv : ∀ k, v.ownBlock = some k → k < B) : BsAt w1 w1.heap.size a m.length c m := by
 have h9 := own_mv9 ho (w' := w1) fun g hg => ht.block g (own_lt ho hg).2 (by have := (own_lt ho hg).1; omega) (fun e => by have := (own_lt ho hg).1; have := hv g e; omega)
 obtain ⟨a', c', e, h8⟩ := bsAt_of_owns h9 (by omega);injection e with e1 _ e2
 subst e1; subst e2;exact h8
theorem PenAt.own_lt {w : World} {q : Nat} {v : Value} {l : List UInt8} (h : PenAt 5 w q v l) : ∀ k, v.ownBlock = some k → k < w.heap.size := fun k hk => (Go.Proofs.YtogcnfhmcpkdcaaGreat.own_lt h.own hk).2
set_option maxRecDepth 100000 in
set_option maxHeartbeats 1000000 in
theorem raftHead (p : Nat) (R : PRaft) (M : RMem) (hb0 : 0 ≤ R.bt) (hb1 : R.bt ≤ 1099511627776) (hf0 : -1 ≤ R.bf) (hf1 : R.bf ≤ 6) (hg : R.line.Good) (hlp : R.line.put.length ≤ 900000) (hsl : R.state.length ≤ 70000) (w : World) (h : RfAt w p R M) :
  Calls Tryz.prog 10 #[.pointer (some ⟨p, 0, none⟩)] w fun e w' => ∃ a c, e = .returned (.slice a R.head.length c) ∧ ByAt w' a c R.head ∧ Below w.heap.size w w' ∧ w'.ownsRow w.heap.size 5 1 (.slice a R.head.length c) R.head.length (R.head.map bv) := by
 obtain ⟨B, hB⟩ : ∃ B : Nat, R.bt = B := ⟨R.bt.toNat, by omega⟩
 obtain ⟨F, hF⟩ : ∃ F : Nat, R.bf + 1 = F := ⟨(R.bf + 1).toNat, by omega⟩
 obtain ⟨f, hf⟩ : ∃ f : Int, R.bf = f := ⟨_, rfl⟩
 have w1 : IntKind.u64.wrap (B : Int) = B := IntWalk.u64_in _ (by omega);have w2 : IntKind.i64.wrap (f + 1) = (F : Int) := by rw [← hf, hF]; exact IntWalk.i64_in _ (by omega)
 have w3 : IntKind.u64.wrap (F : Int) = F := IntWalk.u64_in _ (by omega);have hB1 : B ≤ 1099511627776 := by omega
 have hF1 : F ≤ 7 := by omega
 have HHEAD := Hh (show R.head = putNum B ++ (putNum F ++ (putText R.line.put ++ putText R.state)) by rw [PRaft.head, hB, hF]; simp);obtain ⟨W0, hW0⟩ : ∃ W0, W0 = w.alloc (.cells #[.slice none 0 0] 86) := ⟨_, rfl⟩
 have HW0 := Hh hW0;have hbW : Below w.heap.size w W0 := by rw [hW0]; exact (Below.refl _ _).alloc (Nat.le_refl _) _
 have hp0 := pen_new (w := w) (W := W0) (by rw [hW0]; exact heap_alloc_new w _);have HP0 := Hh hp0;have HB0 := Hh hbW;have HR := Hh h;have HBB := Hh hB;have HFF := Hh hf;have HG := Hh hg;have hpl := h.lt;have c2 : (w.alloc (.cells #[.slice none 0 0] 86)).cell? ⟨p, 2, none⟩ = some (.int .i64 (B : Int)) := by rw [← hB, ← hW0]; exact (h.below hbW).c rfl
 clear hB hF hf hW0 hbW hp0 h hb0 hb1 hf0 hf1 hg;go_enter Tryz.func10, Tryz.ntmps10
 go_wp2_with fail;rw [← HW0.out];refine (penNumB w.heap.size B (by omega) _ [] (by simp) _ HP0.out).mono ?_;rintro e V1 ⟨rfl, v1, L1, hL1, hl1, hp1, hb1⟩;have HP1 := Hh hp1;have HB1 := Hh (HB0.out.trans hb1);have HL1 := Hh hL1;have hle1 : L1.length ≤ 9 := by simpa using hl1
 have hr1 := HR.out.below HB1.out;have c3 : V1.cell? ⟨p, 3, none⟩ = some (.int .i64 f) := by rw [← HFF.out]; exact hr1.c rfl
 clear hp1 hb1 hL1 hl1 hr1 c2;go_wp2_with fail;refine (penNumB w.heap.size F (by omega) _ L1 (by omega) _ HP1.out).mono ?_;rintro e V2 ⟨rfl, v2, L2, hL2, hl2, hp2, hb2⟩;have HP2 := Hh hp2;have HB2 := Hh (HB1.out.trans hb2);have HL2 := Hh hL2;have hle2 : L2.length ≤ 18 := by omega
 have hr2 := HR.out.below HB2.out;have c4 : V2.cell? ⟨p, 4, none⟩ = some (.pointer (some ⟨M.lb, 0, none⟩)) := hr2.c rfl;have HLN2 := Hh hr2.ln;clear hp2 hb2 hL2 hl2 hr2 c3;go_wp2_with fail;refine (linePutO 0 M.lb R.line HG.out M.la M.lc M.ms _ HLN2.out hlp).mono ?_;rintro e V3 ⟨pa, pc, rfl, -, hb3, ho3⟩;have HP3 := Hh (HP2.out.below hb3);have HB3 := Hh (HB2.out.trans (hb3.mono HB2.out.size));have HO3 := Hh ho3;have HV2 := Hh HP2.out.own_lt;have hq2 : w.heap.size < V2.heap.size := HP2.out.lt;clear hb3 ho3 c4;go_wp2_with fail;refine (penTextX w.heap.size v2 L2 (by omega) R.line.put pa pc (by omega) _ (fun w1 v1 ht => ht.apart HO3.out (by omega) hq2 HV2.out) HP3.out).mono ?_;rintro e V4 ⟨rfl, v4, hp4, ht4⟩;obtain ⟨L4, hL4⟩ : ∃ L4, L4 = L2 ++ putText R.line.put := ⟨_, rfl⟩
 rw [← hL4] at hp4;have hle4 : L4.length ≤ 900100 := by
  rw [hL4, List.length_append, putText, List.length_append];have := putNum_le9 (show R.line.put.length < 18446744073709551616 by omega);omega
 have HL4 := Hh hL4;have HP4 := Hh hp4;have HB4 := Hh (HB3.out.trans (ht4.below HP3.out (Nat.le_refl _)));have hr4 := HR.out.below HB4.out;have c5 : V4.cell? ⟨p, 5, none⟩ = some (.slice M.sa R.state.length M.sc) := hr4.c rfl;have HST := Hh ((show BsAt w w.heap.size M.sa R.state.length M.sc R.state from HR.out.st.1).below HB4.out (Nat.le_refl _));clear hp4 ht4 hL4 hr4;go_wp2_with fail;refine (penTextB w.heap.size v4 L4 (by omega) R.state M.sa R.state.length M.sc (by omega) _ HST.out HP4.out).mono ?_;rintro e V5 ⟨rfl, v5, L5, hL5, hl5, hp5, hb5⟩;have HP5 := Hh hp5;have HB5 := Hh (HB4.out.trans hb5);have hle5 : L5.length ≤ 980000 := by omega
 have HL5 := Hh (show L5 = R.head by rw [HHEAD.out, hL5, HL4.out, HL2.out, HL1.out]; simp);clear hp5 hb5 hL5 hl5 c5;go_wp2_with fail;refine (penBytes w.heap.size v5 L5 (by omega) _ HP5.out).mono ?_;rintro e V6 ⟨a6, c6, rfl, -, hb6, ho6⟩;have HO6 := Hh (World.ownsRow.mono ho6 HB5.out.size);have HB6 := Hh (HB5.out.trans (hb6.mono HB5.out.size));clear hb6 ho6;go_wp2;go_ret;rw [← HL5.out];exact ⟨a6, c6, rfl, OwnBs.of_own HO6.out (by omega), HB6.out, HO6.out⟩
end Go.Proofs.YtogcnfhmcpkdcaaGreat
namespace Go.Proofs.YtogcnfhmcpkdcaaGreat
open Go.RowKit
set_option linter.unusedVariables false
set_option linter.unusedSimpArgs false
theorem itemNotes_snoc (a : Int) (l : List PItem) (x : PItem) : itemNotes a (l ++ [x]) = itemNotes a l ++ [itemNote (a + (l.length : Int)) x] := by
 induction l generalizing a with
 | nil => simp [itemNotes]
 | cons y l ih => simp [itemNotes, ih]; congr 1; omega
theorem from_right {x : PLine} (hg : x.Good) (i most : Int) : ∀ it ∈ x.from_ i most, rightI it = true := by
 intro it hi;unfold PLine.from_ at hi;split at hi
 ·simp at hi
 ·exact hg.its it (List.mem_of_mem_drop (List.mem_of_mem_take hi))
theorem RfAt.items {w w' : World} {p : Nat} {R : PRaft} {M M' : RMem} (h : RfAt w p R M) (ht : RTouch p M M' w w') {B : Nat} {ia : Option Addr} {ic : Nat} {os : List MItem} (ho : w.ownsRow B 40 2 (.slice ia os.length ic) os.length (cellsM os)) (hb : ∀ m ∈ os, OwnBs 5 w m) (hl : ∀ k, M.la.map (·.block) = some k → k < B) :
  w'.ownsRow B 40 2 (.slice ia os.length ic) os.length (cellsM os) ∧ ∀ m ∈ os, OwnBs 5 w' m := by
 refine ⟨own_mv9 ho fun g hg => ?_, fun m hm => OwnBs.grown (T := 5) (hb m hm) (fun k cs fr hk hc => ht.block k hk (h.notU8 hc)) ht.size⟩;have hlt := own_lt ho hg;obtain ⟨cur, hc⟩ := own_block ho hg;obtain ⟨-, t2, -, -, -, t6, -, -, -, t10, t11, -, -, -, -⟩ := types18;refine ht.block g hlt.2 fun h9 => ?_
 rcases h9 with e | e | e | e | e
 ·rw [e] at hc; exact t2 (kind_eq h.row hc)
 ·rw [e] at hc; exact t6 (kind_eq h.ln.row hc)
 ·have := hl g e; omega
 ·obtain ⟨c2, h2⟩ := own_kind h.nw e; exact t10 (kind_eq hc h2)
 ·obtain ⟨c2, h2⟩ := own_kind h.ou e; exact t11 (kind_eq hc h2)
structure NL (w : World) (p : Nat) (R : PRaft) (M : RMem) (A : Int) (os : List MItem) (ia : Option Addr) (ic : Nat) (j : Nat) (S : PRaft) (N : RMem) (wr : World) : Prop where
 rf : RfAt wr p S N
 tu : RTouch p M N w wr
 own : wr.ownsRow w.heap.size 40 2 (.slice ia os.length ic) os.length (cellsM os)
 bs : ∀ m ∈ os, OwnBs 5 wr m
 sn : S = { R with news := R.news ++ itemNotes A ((os.take j).map MItem.it) }
 la : ∀ k, N.la.map (·.block) = some k → k < w.heap.size
 nl : N.ns.length = M.ns.length + j
set_option maxRecDepth 100000 in
set_option maxHeartbeats 2000000 in
theorem raftNoteItems (p : Nat) (R : PRaft) (M : RMem) (A : Int) (ha0 : 0 ≤ A) (ha1 : A ≤ 1099511627776) (hg : R.line.Good) (hn : R.news.length ≤ 1000000000) (w : World) (h : RfAt w p R M) :
  Calls Tryz.prog 51 #[.pointer (some ⟨p, 0, none⟩), .int .i64 A] w fun e w' => e = .returned (.tuple #[]) ∧ ∃ M', RfAt w' p (R.noteItems A) M' ∧ RTouch p M M' w w' := by
 obtain ⟨j0, gi, gz0, gz1, gz2⟩ := info_parts infoBytes9;have hns : M.ns.length ≤ 1000000000 := by rw [← h.nq] at hn; simpa using hn
 have c4 := h.c (i := 4) (v := .pointer (some ⟨M.lb, 0, none⟩)) rfl;have HLN := Hh h.ln;have HG := Hh hg;have HR := Hh h;have HLA := Hh (show ∀ k, M.la.map (·.block) = some k → k < w.heap.size from fun k hk => by obtain ⟨cur, hc⟩ := own_kind h.ln.own hk; exact (Array.getElem?_eq_some_iff.1 hc).1);have hq : (R.line.from_ A 4096).length ≤ 4096 := by
  unfold PLine.from_;split
  ·simp
  ·simp [List.length_take]; omega
 have HRI := Hh (from_right hg A 4096);clear h hg hn;go_enter Tryz.func51, Tryz.ntmps51
 go_wp2_with fail;refine (lineFromA 0 M.lb R.line HG.out M.la M.lc M.ms A 4096 _ HLN.out).mono ?_;rintro e w1 ⟨ia, ic, os, rfl, hown, hmap, hb1⟩;have hol : os.length ≤ 4096 := by rw [← hmap] at hq; simpa using hq
 have HMAP := Hh hmap;have HOR := Hh (show ∀ m ∈ os, rightI m.it = true from fun m hm => HRI.out m.it (by rw [← HMAP.out]; exact List.mem_map_of_mem hm));have HNL := Hh (show NL w p R M A os ia ic 0 R M w1 from ⟨HR.out.below hb1, .ofBelow hb1, hown.own, hown.bs, by simp [itemNotes], HLA.out, rfl⟩);clear hown hb1 hmap hq c4;go_wp2_with fail;obtain ⟨wo, rfl⟩ : ∃ wo : World, wo = w1 := ⟨_, rfl⟩
 go_loopw [14] (fun iv wr => ∃ (j : Nat) (S : PRaft) (N : RMem), iv = .int .i64 j ∧ j ≤ os.length ∧ NL w p R M A os ia ic j S N wr) (fun iv _ => os.length - (intOf iv).toNat)
 case atStart => exact ⟨0, R, M, rfl, by omega, HNL.out⟩
 case round =>
  obtain ⟨j, S, N, rfl, hj, hnl⟩ := hrel;have HL := Hh hnl;have hnn : N.ns.length ≤ 1000010000 := by have := hnl.nl; omega
  clear hnl;by_cases hlt : j < os.length
  ·have tj : decide ((j : Int) < (os.length : Int)) = true := by simpa using hlt
   have hk0 : (0 : Int) ≤ (j : Int) := by omega
   have hk1 : (j : Int) < (os.length : Int) := by omega
   obtain ⟨m, hm⟩ : ∃ m, os[j]? = some m := ⟨_, List.getElem?_eq_getElem hlt⟩
   have hmm := List.mem_of_getElem? hm;obtain ⟨a9, c9, e9, hs9⟩ := SlAt.ofOwns HL.out.own;injection e9 with e10 _ e12
   subst e10; subst e12;obtain ⟨b, o, rfl, hb, hc⟩ := hs9.hat (by have := cellsM_len os; omega);have hcl := cellsM_len os;obtain ⟨e0, e1⟩ := cellsM_at os j m hm;have hmb := (HL.out.bs m hmm).1;have hmn : m.n = m.b.length := hmb.hlen.symm;rw [hmn] at e1;have k0 : wr.cell? ⟨b, o + j * 2, none⟩ = some (.int .i64 m.t) := (hc _ (by omega)).trans e0;have k1 : wr.cell? ⟨b, o + j * 2 + 1, none⟩ = some (.slice m.a m.b.length m.c) := by rw [Nat.add_assoc]; exact (hc _ (by omega)).trans e1
   have hri := (rightI_iff _).1 (HOR.out m hmm);obtain ⟨T, hT⟩ : ∃ T : Nat, m.t = T := ⟨m.t.toNat, by have h0 : 0 ≤ m.t := hri.1; omega⟩
   obtain ⟨D, hD⟩ : ∃ D : Nat, A + (j : Int) = D := ⟨(A + (j : Int)).toNat, by omega⟩
   have hT1 : T ≤ 1099511627776 := by have h0 : m.t ≤ 1099511627776 := hri.2.1; omega
   have hD1 : D ≤ 1099511700000 := by omega
   have hb8 : m.b.length ≤ 8192 := hri.2.2;rw [hT] at k0;have w1 : IntKind.u64.wrap (T : Int) = T := IntWalk.u64_in _ (by omega);have w2 : IntKind.i64.wrap (A + (j : Int)) = (D : Int) := by rw [hD]; exact IntWalk.i64_in _ (by omega)
   have w3 : IntKind.u64.wrap (D : Int) = D := IntWalk.u64_in _ (by omega);have HNOTE := Hh (show itemNote (A + (j : Int)) m.it = putNum 2 ++ (putNum D ++ (putNum T ++ putText m.b)) by rw [itemNote, hD, show m.it.1 = m.t from rfl, hT]; simp);obtain ⟨Wb, hWb⟩ : ∃ Wb, Wb = wr.alloc (.cells #[.int .i64 (T : Int), .slice m.a m.b.length m.c] 40) := ⟨_, rfl⟩
   obtain ⟨W0, hW0⟩ : ∃ W0, W0 = Wb.alloc (.cells #[.slice none 0 0] 86) := ⟨_, rfl⟩
   have hsb : Wb.heap.size = wr.heap.size + 1 := by rw [hWb]; simp
   have hbb : Below wr.heap.size wr Wb := by rw [hWb]; exact (Below.refl _ _).alloc (Nat.le_refl _) _
   have hrb : Wb.heap[wr.heap.size]? = some (.cells #[.int .i64 (T : Int), .slice m.a m.b.length m.c] 40 (0, 0)) := by rw [hWb]; exact heap_alloc_new wr _
   have hbW : Below Wb.heap.size Wb W0 := by rw [hW0]; exact (Below.refl _ _).alloc (Nat.le_refl _) _
   have HP0 := Hh (pen_new (w := Wb) (W := W0) (by rw [hW0]; exact heap_alloc_new Wb _));have HB0 := Hh hbW;have HRB := Hh hrb;have HBB := Hh hbb;have HMB := Hh (show BsAt Wb Wb.heap.size m.a m.b.length m.c m.b from by rw [← hmn]; exact (hmb.below hbb (Nat.le_refl _)).mono hbb.size);have HWW := Hh (show W0 = (wr.alloc (.cells #[.int .i64 (T : Int), .slice m.a m.b.length m.c] 40)).alloc (.cells #[.slice none 0 0] 86) by rw [hW0, hWb]);have HM := Hh hm;have HSB := Hh hsb;have HRS := Hh (HL.out.rf.below hbb);clear hc e0 e1 hs9 hmn hmb hri hT hD hWb hW0 hsb hbb hrb hbW hm;have hszl : wr.heap.size < Wb.heap.size := by rw [HSB.out]; omega
   go_wp2_with fail;rw [← HWW.out];rw [show wr.heap.size + 1 = Wb.heap.size from HSB.out.symm];clear k0 k1;refine (penNumB Wb.heap.size 2 (by omega) _ [] (by simp) _ HP0.out).mono ?_;rintro e V1 ⟨rfl, v1, L1, hL1, hl1, hp1, hb1⟩;have HP1 := Hh hp1;have HB1 := Hh (HB0.out.trans hb1);have HL1 := Hh hL1;have hle1 : L1.length ≤ 9 := by simpa using hl1
   clear hp1 hb1 hL1 hl1;go_wp2_with fail;refine (penNumB Wb.heap.size D (by omega) _ L1 (by omega) _ HP1.out).mono ?_;rintro e V2 ⟨rfl, v2, L2, hL2, hl2, hp2, hb2⟩;have HP2 := Hh hp2;have HB2 := Hh (HB1.out.trans hb2);have HL2 := Hh hL2;have hle2 : L2.length ≤ 18 := by omega
   have k0 : V2.cell? ⟨wr.heap.size, 0, none⟩ = some (.int .i64 (T : Int)) := (HB2.out.cell (p := ⟨wr.heap.size, 0, none⟩) hszl).trans (cell_of_row _ _ 0 _ _ _ HRB.out);clear hp2 hb2 hL2 hl2;go_wp2_with fail;refine (penNumB Wb.heap.size T (by omega) _ L2 (by omega) _ HP2.out).mono ?_;rintro e V3 ⟨rfl, v3, L3, hL3, hl3, hp3, hb3⟩;have HP3 := Hh hp3;have HB3 := Hh (HB2.out.trans hb3);have HL3 := Hh hL3;have hle3 : L3.length ≤ 27 := by omega
   have k1 : V3.cell? ⟨wr.heap.size, 1, none⟩ = some (.slice m.a m.b.length m.c) := (HB3.out.cell (p := ⟨wr.heap.size, 1, none⟩) hszl).trans (cell_of_row _ _ 1 _ _ _ HRB.out);have HMB3 := Hh (HMB.out.below HB3.out (Nat.le_refl _));clear hp3 hb3 hL3 hl3 k0;go_wp2_with fail;refine (penTextB Wb.heap.size v3 L3 (by omega) m.b m.a m.b.length m.c (by omega) _ HMB3.out HP3.out).mono ?_;rintro e V4 ⟨rfl, v4, L4, hL4, hl4, hp4, hb4⟩;have HP4 := Hh hp4;have HB4 := Hh (HB3.out.trans hb4);have hle4 : L4.length ≤ 9000 := by omega
   have HL4 := Hh (show L4 = itemNote (A + (j : Int)) m.it by rw [HNOTE.out, hL4, HL3.out, HL2.out, HL1.out]; simp);have HR4 := Hh (HRS.out.below HB4.out);clear hp4 hb4 hL4 hl4 k1;go_wp2_with fail;refine OpR (S := PZ p) ?_;have hdr : Below V4.heap.size V4 V4.drew := (Below.refl _ _).drew;have HR9 := Hh (HR4.out.below hdr);have hS0 : PZ p V4.drew := ⟨HR9.out.lt⟩
   refine hT 0 32 hS0 ?_;refine hT 1 33 hS0 ?_;refine hT 2 34 hS0 ?_;refine hT 3 35 hS0 ?_;have HS0 := Hh hS0;clear hS0;apply wayR (fun U n a4 c4 => NoteW p S N Wb L4 U n a4 c4);intro hway;refine Op2 4 5 ?_ ?_
   ·have p4 := HR9.out.tails.2.1;go_simp;clear p4;refine ⟨HS0.out, ?_⟩;refine Op1 5 ?_;go_simp;refine (penBytes Wb.heap.size _ L4 (by omega) _ (HP4.out.below hdr)).mono ?_;rintro e V9 ⟨a4, c4, rfl, -, hb9, ho9⟩;have hS9 : PZ p V9 := ⟨Nat.lt_of_lt_of_le HS0.out.s hb9.size⟩
    obtain ⟨U, hU⟩ : ∃ U, U = V9.alloc (.cells #[.slice a4 L4.length c4] 27) := ⟨_, rfl⟩
    have hbU : Below V9.heap.size V9 U := by rw [hU]; exact (Below.refl _ _).alloc (Nat.le_refl _) _
    have hbVU : Below V4.heap.size V4 U := hdr.trans (hb9.trans (hbU.mono hb9.size));have hNW : NoteW p S N Wb L4 U V9.heap.size a4 c4 := by
     refine ⟨HR4.out.below hbVU, ?_, (OwnBs.of_own ho9 (by omega)).below hbU, HB4.out.trans (hbVU.mono HB4.out.size)⟩;rw [show U.heap.size = V9.heap.size + 1 by rw [hU]; simp, hU];exact slAt_one V9 _ _
    have hSU : PZ p U := ⟨hNW.rf.lt⟩
    have p9 := HR9.out.below hb9;have HP9 := Hh p9;have HU := Hh hU;have HNW := Hh hNW;have HSU := Hh hSU;have HS9 := Hh hS9;clear hb9 ho9 hU hbU hbVU hNW hSU p9;refine ⟨hS9, ?_⟩;clear hS9;refine Op1 6 ?_;go_simp;rw [← HU.out];refine ⟨HSU.out, ?_⟩;have hnw := HNW.out;generalize V9.heap.size = n at hnw ⊢;exact hway U n a4 c4 hnw
   ·go_simp;refine (penBytes Wb.heap.size _ L4 (by omega) _ (HP4.out.below hdr)).mono ?_;rintro e V9 ⟨a4, c4, rfl, -, hb9, ho9⟩;have hS9 : PZ p V9 := ⟨Nat.lt_of_lt_of_le HS0.out.s hb9.size⟩
    obtain ⟨U, hU⟩ : ∃ U, U = V9.alloc (.cells #[.slice a4 L4.length c4] 27) := ⟨_, rfl⟩
    have hbU : Below V9.heap.size V9 U := by rw [hU]; exact (Below.refl _ _).alloc (Nat.le_refl _) _
    have hbVU : Below V4.heap.size V4 U := hdr.trans (hb9.trans (hbU.mono hb9.size));have hNW : NoteW p S N Wb L4 U V9.heap.size a4 c4 := by
     refine ⟨HR4.out.below hbVU, ?_, (OwnBs.of_own ho9 (by omega)).below hbU, HB4.out.trans (hbVU.mono HB4.out.size)⟩;rw [show U.heap.size = V9.heap.size + 1 by rw [hU]; simp, hU];exact slAt_one V9 _ _
    have hSU : PZ p U := ⟨hNW.rf.lt⟩
    have p9 := HR9.out.below hb9;have HP9 := Hh p9;have HU := Hh hU;have HNW := Hh hNW;have HSU := Hh hSU;have HS9 := Hh hS9;clear hb9 ho9 hU hbU hbVU hNW hSU p9;refine ⟨hS9, ?_⟩;clear hS9;refine Op2 4 6 ?_ ?_
    ·have p4 := HP9.out.tails.2.1;go_simp;clear p4;refine ⟨HS9.out, ?_⟩;refine Op1 6 ?_;go_simp;rw [← HU.out];refine ⟨HSU.out, ?_⟩;have hnw := HNW.out;generalize V9.heap.size = n at hnw ⊢;exact hway U n a4 c4 hnw
    ·go_simp;rw [← HU.out];refine ⟨HSU.out, ?_⟩;refine Op1 4 ?_;have p4 := HNW.out.rf.tails.2.1;go_simp;clear p4;refine ⟨HSU.out, ?_⟩;have hnw := HNW.out;generalize V9.heap.size = n at hnw ⊢;exact hway U n a4 c4 hnw
   intro U n a4 c4 hnw;have HRU := Hh hnw.rf;have HIT := Hh hnw.it;have HBY := Hh hnw.by_;have HBU := Hh hnw.bel;clear hnw;refine Op1 7 ?_;refine wp_append_sl U (.tmp 36) (.tmp 38) 29 rfl 0 27 j0 (.slice none 0 0) 1 24 Tryz.underlying29 gi gz0 gz1 gz2 rfl (by decide) (.slice N.na N.ns.length N.nc) N.ns.length (N.ns.map MNote.cell) rfl HRU.out.nw U.heap.size (some ⟨n, 0, none⟩) 1 1 [.slice a4 L4.length c4] rfl HIT.out (by intro u hu; simp at hu; subst hu; rfl) (by unfold maxLen; omega) (by omega) (Nat.zero_le _) ?_;intro a11 c11 W11 o11 g11 hat11;obtain ⟨hr12, ht12⟩ := HRU.out.note (m := ⟨a4, c4, L4⟩) HBY.out o11 g11 hat11;have hrow11 : W11.heap[p]? = some (.cells (rcells S N).toArray 84 (0, 0)) := (g11.block p HRU.out.lt (fun e => HRU.out.apart.2.2.1 (by rw [ownBlock_eq] at e; exact e.symm))).trans HRU.out.row;have hS11 : PZ p W11 := ⟨Nat.lt_of_lt_of_le HRU.out.lt g11.size⟩
   have p2 : W11.cell? ⟨p, 33, none⟩ = some (.slice N.na N.ns.length N.nc) := by rw [cell_of_row _ _ _ _ _ _ hrow11, List.getElem?_toArray]; exact rcells_tail HRU.out.sv (j := 1) (by omega)
   have f2 : W11.frozen? ⟨p, 33, none⟩ = false := frozen_of_row _ _ _ _ _ hrow11;refine ⟨hS11, ?_⟩;go_simp;refine hT 8 40 hS11 ?_;refine hT 9 41 hS11 ?_;refine Op1 10 ?_;refine wp_store_cell 29 (.tmp 41) (.tmp 39) rfl p 33 (.slice a11 (N.ns.length + 1) c11) _ rfl rfl rfl infoBytesS p2 f2 ?_;obtain ⟨W12, hW12⟩ : ∃ W12, W12 = W11.setCell ⟨p, 33, none⟩ (.slice a11 (N.ns.length + 1) c11) := ⟨_, rfl⟩
   rw [← hW12] at hr12 ht12 ⊢;have HR12 := Hh hr12;have HT12 := Hh ht12;have hS12 : PZ p W12 := ⟨hr12.lt⟩
   refine ⟨hS12, OpE ?_⟩;clear hS11 hS12 p2 f2 hrow11 hr12 ht12 hW12 o11 g11 hat11 hdr;have htou : RTouch p N { N with na := a11, nc := c11, ns := N.ns ++ [⟨a4, c4, L4⟩] } wr W12 := RTouch.trans (.ofBelow (HBB.out.trans (HBU.out.mono (by omega)))) HT12.out;obtain ⟨hio, hib⟩ := HL.out.rf.items htou HL.out.own HL.out.bs HL.out.la;have HNN := Hh (show NL w p R M A os (some ⟨b, o, none⟩) ic (j + 1) { S with news := S.news ++ [L4] } { N with na := a11, nc := c11, ns := N.ns ++ [⟨a4, c4, L4⟩] } W12 from by
    refine ⟨HR12.out, HL.out.tu.trans htou, hio, hib, ?_, HL.out.la, by simp [HL.out.nl]; omega⟩;rw [HL.out.sn, HL4.out];have htk : os.take (j + 1) = os.take j ++ [m] := by rw [List.take_add_one, HM.out]; rfl
    rw [htk, List.map_append, List.map_cons, List.map_nil, itemNotes_snoc];simp [List.length_take, Nat.min_eq_left (Nat.le_of_lt hlt)])
   clear htou hio hib;go_wp2;go_roundw
   case rel => exact ⟨j + 1, _, _, by go_num, hlt, HNN.out⟩
   case measure => simp [intOf]; omega
  ·have tj : decide ((j : Int) < (os.length : Int)) = false := by simpa using hlt
   have hje : j = os.length := by omega
   subst hje;have hfin : S = R.noteItems A := by rw [HL.out.sn, List.take_length, HMAP.out]; rfl
   subst hfin;clear hlt;go_wp2;go_end0;exact ⟨rfl, N, HL.out.rf, HL.out.tu⟩
end Go.Proofs.YtogcnfhmcpkdcaaGreat
namespace Go.Proofs.YtogcnfhmcpkdcaaGreat
open Go.RowKit
set_option linter.unusedVariables false
set_option linter.unusedSimpArgs false
theorem RfAt.drawn {w w' : World} {p : Nat} {R : PRaft} {M : RMem} (h : RfAt w p R M) {m : Nat} (e : w' = w.drewN m) : RfAt w' p R M := by rw [e]; exact h.below (below_drewN w m)
structure SendS (p : Nat) (c : Int) (lb : Nat) (W : World) : Prop where
 c8 : W.cell? ⟨p, 8, none⟩ = some (.int .i64 c)
 c4 : W.cell? ⟨p, 4, none⟩ = some (.pointer (some ⟨lb, 0, none⟩))
theorem RfAt.sendS {w : World} {p : Nat} {R : PRaft} {M : RMem} (h : RfAt w p R M) : SendS p R.commit M.lb w := ⟨h.c rfl, h.c rfl⟩
set_option maxRecDepth 100000 in
set_option maxHeartbeats 1000000 in
theorem raftSend (p : Nat) (R : PRaft) (M : RMem) (who : Nat) (hw : who < 7) (hg : R.line.Good) (hx : ∀ x ∈ R.nxt, 0 ≤ x ∧ x ≤ 1099511627777) (hn : R.out.length ≤ 1000000000) (w : World) (h : RfAt w p R M) :
  Calls Tryz.prog 40 #[.pointer (some ⟨p, 0, none⟩), .int .i64 who] w fun e w' => e = .returned (.tuple #[]) ∧ ∃ M', RfAt w' p (R.send who) M' ∧ RTouch p M M' w w' := by
 have c4 := h.c (i := 4) (v := .pointer (some ⟨M.lb, 0, none⟩)) rfl;obtain ⟨X, hX⟩ : ∃ X, R.nxt.getD who 0 = X := ⟨_, rfl⟩
 have hxb : 0 ≤ X ∧ X ≤ 1099511627777 := by
  rw [← hX];have hl : who < R.nxt.length := by rw [h.sv.x7]; exact hw
  rw [List.getD_eq_getElem?_getD, List.getElem?_eq_getElem hl];exact hx _ (List.getElem_mem hl)
 have hk0 : (0 : Int) ≤ (who : Int) := by omega
 have hk1 : (who : Int) < 7 := by omega
 have HR := Hh h;have HG := Hh hg;have HX := Hh hX;have HSEND := Hh (show R.send who = if X ≤ R.line.base then R.post who ⟨5, 0, R.line.base, R.line.term, 0, false, [], R.state⟩ else R.post who ⟨3, 0, X - 1, (tmIs R.line (X - 1)).1, R.commit, false, R.line.from_ X 16, []⟩ by
  unfold PRaft.send;rw [Int.toNat_natCast, hX, Int.sub_add_cancel])
 clear h hg hX hx;go_enter Tryz.func40, Tryz.ntmps40
 go_wp2_with fail;refine (lineBase 0 M.lb R.line M.la M.lc M.ms _ HR.out.ln).mono ?_;rintro e w1 ⟨rfl, m1, hm1⟩;have HR1 := Hh (HR.out.drawn hm1);have HB1 := Hh (show Below w.heap.size w w1 by rw [hm1]; exact below_drewN w m1);have cX : w1.cell? ⟨p, 25 + who, none⟩ = some (.int .i64 X) := by rw [← HX.out]; exact HR1.out.c (rcells_nxt HR1.out.sv hw)
 have c5 : w1.cell? ⟨p, 5, none⟩ = some (.slice M.sa R.state.length M.sc) := HR1.out.c rfl;have c4' : w1.cell? ⟨p, 4, none⟩ = some (.pointer (some ⟨M.lb, 0, none⟩)) := HR1.out.c rfl;clear c4 hm1;by_cases hle : X ≤ R.line.base
 ·have t1 : decide (X ≤ R.line.base) = true := by simpa using hle
  have HS := Hh (HSEND.out.trans (if_pos hle));clear hle;go_wp2_with fail;refine (cloneBy R.state M.sa M.sc _ HR1.out.st.1).mono ?_;rintro e w2 ⟨a2, c2, rfl, hcl2, hb2⟩;have HR2 := Hh (HR1.out.below hb2);have HCL := Hh hcl2;clear hcl2;have HB2 := Hh (HB1.out.trans (hb2.mono HB1.out.size));clear hb2 cX c5 c4';go_wp2_with fail;refine (raftPost p R M who ⟨5, 0, R.line.base, R.line.term, 0, false, [], R.state⟩ none 0 0 a2 c2 hn _ HR2.out (ms := []) rfl ⟨own_nil0 _, rfl, HCL.out⟩ (fun k hk => by cases hk)).mono ?_;rintro e w3 ⟨rfl, M', hr3, ht3⟩;have HR3 := Hh hr3;have HT3 := Hh ((RTouch.ofBelow HB2.out).trans ht3);clear hr3 ht3;go_wp2;refine bodyPost_ret (results_none rfl _ _ _) rfl ?_;exact ⟨rfl, M', by rw [HS.out]; exact HR3.out, HT3.out⟩
 ·have t1 : decide (X ≤ R.line.base) = false := by simpa using hle
  have HS := Hh (HSEND.out.trans (if_neg hle));have w0 : IntKind.i64.wrap (X - 1) = X - 1 := IntWalk.i64_in _ (by omega);have w9 : IntKind.i64.wrap X = X := IntWalk.i64_in _ (by omega);clear hle;go_wp2_with fail;refine (lineTerm 0 M.lb R.line HG.out M.la M.lc M.ms (X - 1) _ HR1.out.ln).mono ?_;rintro e w2 ⟨rfl, m2, hm2⟩;have HR2 := Hh (HR1.out.drawn hm2);have HB2 := Hh (show Below w.heap.size w w2 from HB1.out.trans (by rw [hm2]; exact (below_drewN w1 m2).mono HB1.out.size));obtain ⟨Tm, hTm⟩ : ∃ Tm, (tmIs R.line (X - 1)).1 = Tm := ⟨_, rfl⟩
  rw [hTm];have HTM := Hh hTm;clear hm2 cX c5 c4' hTm;go_wp2_with fail;refine OpR (S := SendS p R.commit M.lb) ?_;have hdr : Below w2.heap.size w2 w2.drew := (Below.refl _ _).drew;have HR3 := Hh (HR2.out.below hdr);have hS0 := HR3.out.sendS;refine hT 0 52 hS0 ?_;refine hT 1 53 hS0 ?_;refine hT 2 54 hS0 ?_;refine hT 3 55 hS0 ?_;refine hT 4 56 hS0 ?_;refine hT 5 57 hS0 ?_;refine hT 6 58 hS0 ?_;refine hT 7 59 hS0 ?_;refine hT 8 60 hS0 ?_;refine hT 9 61 hS0 ?_;refine hT 10 62 hS0 ?_;refine hT 11 63 hS0 ?_;refine hT 12 64 hS0 ?_;refine heldTake 13 65 (v := .int .i64 X) rfl rfl (by kernel_rfl) (by kernel_rfl) (by kernel_rfl) (fun _ _ _ h => h) hS0 (.inl ⟨by rfl, by intro w' hS; clear hS; go_simp; (try (all_goals rfl))⟩) ?_;simp only [List.set_cons_zero, List.set_cons_succ];clear hS0;refine Op1 14 ?_;go_simp;refine (lineFromA 0 M.lb R.line HG.out M.la M.lc M.ms X 16 _ HR3.out.ln).mono ?_;rintro e w4 ⟨ia, ic, os, rfl, hown4, hmap, hb4⟩;have HOW4 := Hh hown4;have HMP4 := Hh hmap;have HNW4 := Hh (show ∀ k, ia.map (·.block) = some k → ¬ M.own p k from fun k hk => HR3.out.notNew (own_lt hown4.own (by rw [ownBlock_eq]; exact hk)).1);clear hown4 hmap;have HR4 := Hh (HR3.out.below hb4);have HB4 := Hh (HB2.out.trans ((hdr.trans hb4).mono HB2.out.size));have hS4 := HR4.out.sendS;refine ⟨hS4, ?_⟩;clear hb4 hdr;refine heldTake 15 67 (v := .agg (lcell ⟨3, 0, X - 1, Tm, R.commit, false, R.line.from_ X 16, []⟩ ia os.length ic none 0)) rfl rfl (by kernel_rfl) (by kernel_rfl) (by kernel_rfl) (fun _ _ _ h => h) hS4 (.inl ⟨by rfl, by intro w' hS; clear hS; go_simp; (try (all_goals rfl))⟩) ?_;simp only [List.set_cons_zero, List.set_cons_succ];clear hS4;refine Op1 16 ?_;go_simp;refine (raftPostX p R M who ⟨3, 0, X - 1, Tm, R.commit, false, R.line.from_ X 16, []⟩ ia os.length ic none 0 hn _ HR4.out rfl ⟨⟨own_mono0 HOW4.out.own, HOW4.out.bs⟩, HMP4.out, byNil _⟩ HNW4.out).mono ?_;rintro e w5 ⟨rfl, M', hr5, ht5, hlb⟩;have HR5 := Hh hr5;have HT5 := Hh ((RTouch.ofBelow HB4.out).trans ht5);have hS5 : SendS p R.commit M.lb w5 := by have h9 := hr5.sendS; rw [hlb] at h9; exact h9
  refine ⟨hS5, OpE ?_⟩;clear hS5 hr5 ht5 hlb;go_wp2;go_end0;exact ⟨rfl, M', by rw [HS.out, HTM.out]; exact HR5.out, HT5.out⟩
end Go.Proofs.YtogcnfhmcpkdcaaGreat
