/-
  Contracts of others and look.
  The plain law of layer 18: what each step leaves as it was. No walk.
  Contract of lead.
  Contract of count.
-/
import Derived.Test.YtogcnfhmcpkdcaaGreatRaftM1
import Derived.Test.YtogcnfhmcpkdcaaGreatVoteM
import Derived.Test.YtogcnfhmcpkdcaaGreatRaftLaw
import Derived.Test.YtogcnfhmcpkdcaaGreatLine2
import Derived.Test.YtogcnfhmcpkdcaaGreatOpenO
namespace Go.Proofs.YtogcnfhmcpkdcaaGreat
open Go.RowKit
set_option linter.unusedVariables false
set_option linter.unusedSimpArgs false
set_option maxRecDepth 100000 in
set_option maxHeartbeats 1000000 in
theorem raftOthers (p : Nat) (R : PRaft) (M : RMem) (f : FuncId) (hf : ∀ args w, Sem.run Tryz.prog (callFunc f args) w = .ok (.enter f args) w) (first cap : Array Value) (F : PRaft → Int → PRaft) (J : Nat → PRaft → Prop) (n : Nat) (hn : R.n = n) (hn7 : n ≤ 7) (w : World) (h : RfAt w p R M)
  (h0 : J 0 R) (hs : ∀ i S, i < n → J i S → S.me = R.me ∧ J (i + 1) (if (i : Int) = S.me then S else F S i)) (hend : ∀ S, J n S → S.me = R.me)
  (hdo : ∀ (i : Nat), i < n → (i : Int) ≠ R.me → ∀ S N W, RfAt W p S N → RTouch p M N w W → J i S → Calls Tryz.prog f (first.push (.int .i64 i) ++ cap) W fun e W' => e = .returned (.tuple #[]) ∧ ∃ N', RfAt W' p (F S i) N' ∧ RTouch p N N' W W') :
  Calls Tryz.prog 39 #[.pointer (some ⟨p, 0, none⟩), .func (.func f) first cap] w fun e w' => e = .returned (.tuple #[]) ∧ ∃ M', RfAt w' p (R.others F) M' ∧ RTouch p M M' w w' ∧ J n (R.others F) := by
 have c1 : w.cell? ⟨p, 1, none⟩ = some (.int .i64 (n : Int)) := by rw [← hn]; exact h.c rfl
 have HDO := Hh hdo;have HR := Hh h;have HS := Hh hs;have H0 := Hh h0;have HN := Hh hn;clear hdo h hs h0 hn;go_enter Tryz.func39, Tryz.ntmps39
 go_wp2_with fail;obtain ⟨wo, rfl⟩ : ∃ wo : World, wo = w := ⟨_, rfl⟩
 go_loopw [9] (fun iv wr => ∃ (i : Nat) (S : PRaft) (N : RMem), iv = .int .i64 i ∧ i ≤ n ∧ RfAt wr p S N ∧ RTouch p M N wo wr ∧ J i S ∧ R.others F = othersFrom F (n - i) i S) (fun iv _ => n - (intOf iv).toNat)
 case atStart => exact ⟨0, R, M, rfl, by omega, HR.out, .refl _ _ _, H0.out, by rw [PRaft.others, HN.out]; rfl⟩
 case round =>
  obtain ⟨i, S, N, rfl, hi, hr, ht, hj, ho⟩ := hrel;have HRS := Hh hr;have HT := Hh ht;have HJ := Hh hj;have HO := Hh ho;clear hr ht hj ho;by_cases hlt : i < n
  ·have ti : decide ((i : Int) < (n : Int)) = true := by simpa using hlt
   have c0 : wr.cell? ⟨p, 0, none⟩ = some (.int .i64 S.me) := HRS.out.c rfl;obtain ⟨hme, hjs⟩ := HS.out i S hlt HJ.out;have hst : othersFrom F (n - i) i S = othersFrom F (n - (i + 1)) ((i + 1 : Nat) : Int) (if (i : Int) = S.me then S else F S i) := by
    rw [show n - i = (n - (i + 1)) + 1 by omega, othersFrom]
    norm_cast
   have HO2 := Hh (HO.out.trans hst);have HJS := Hh hjs;have HME := Hh hme;clear hst hjs hme;by_cases hm : (i : Int) = S.me
   ·have tm : ((i : Int) != S.me) = false := by simp [hm]
    have HO3 := Hh (show R.others F = othersFrom F (n - (i + 1)) ((i + 1 : Nat) : Int) S by rw [HO2.out, if_pos hm]);have HJ3 := Hh (show J (i + 1) S by have h9 := HJS.out; rw [if_pos hm] at h9; exact h9);clear hm;go_wp2;go_roundw
    case rel => exact ⟨i + 1, S, N, by go_num, hlt, HRS.out, HT.out, HJ3.out, HO3.out⟩
    case measure => simp [intOf]; omega
   ·have tm : ((i : Int) != S.me) = true := by simpa using hm
    have HO3 := Hh (show R.others F = othersFrom F (n - (i + 1)) ((i + 1 : Nat) : Int) (F S i) by rw [HO2.out, if_neg hm]);have HJ3 := Hh (show J (i + 1) (F S i) by have h9 := HJS.out; rw [if_neg hm] at h9; exact h9);have HC := Hh (HDO.out i hlt (by rw [← HME.out]; exact hm) S N wr HRS.out HT.out HJ.out);clear hm;go_wp2_with fail;refine HC.out.mono ?_;rintro e w1 ⟨rfl, N', hr1, ht1⟩;have HR1 := Hh hr1;have HT1 := Hh (HT.out.trans ht1);clear hr1 ht1 c0;go_wp2;go_roundw
    case rel => exact ⟨i + 1, _, N', by go_num, hlt, HR1.out, HT1.out, HJ3.out, HO3.out⟩
    case measure => simp [intOf]; omega
  ·have ti : decide ((i : Int) < (n : Int)) = false := by simpa using hlt
   have hie : i = n := by omega
   subst hie;have hfin : R.others F = S := by rw [HO.out, Nat.sub_self]; rfl
   clear hlt;go_wp2;go_end0;rw [hfin];exact ⟨rfl, N, HRS.out, HT.out, HJ.out⟩
structure LookS (p : Nat) (me n : Int) (W : World) : Prop where
 c0 : W.cell? ⟨p, 0, none⟩ = some (.int .i64 me)
 c1 : W.cell? ⟨p, 1, none⟩ = some (.int .i64 n)
theorem RfAt.lookS {w : World} {p : Nat} {R : PRaft} {M : RMem} (h : RfAt w p R M) : LookS p R.me R.n w := ⟨h.c rfl, h.c rfl⟩
theorem RfAt.setMat {w : World} {p : Nat} {R : PRaft} {M : RMem} (h : RfAt w p R M) {j : Nat} (hj : j < 7) (x : Int) : RfAt (w.setCell ⟨p, 18 + j, none⟩ (iz x)) p { R with mat := R.mat.set j x } M ∧ RTouch p M M w (w.setCell ⟨p, 18 + j, none⟩ (iz x)) :=
 h.set (18 + j) (iz x) (rcells_setMat h.sv hj x) ⟨h.sv.v7, by simp [h.sv.m7], h.sv.x7⟩ rfl rfl rfl rfl
theorem RfAt.setNxt {w : World} {p : Nat} {R : PRaft} {M : RMem} (h : RfAt w p R M) {j : Nat} (hj : j < 7) (x : Int) : RfAt (w.setCell ⟨p, 25 + j, none⟩ (iz x)) p { R with nxt := R.nxt.set j x } M ∧ RTouch p M M w (w.setCell ⟨p, 25 + j, none⟩ (iz x)) :=
 h.set (25 + j) (iz x) (rcells_setNxt h.sv hj x) ⟨h.sv.v7, h.sv.m7, by simp [h.sv.x7]⟩ rfl rfl rfl rfl
theorem RfAt.setVotes {w : World} {p : Nat} {R : PRaft} {M : RMem} (h : RfAt w p R M) {j : Nat} (hj : j < 7) (x : Int) : RfAt (w.setCell ⟨p, 11 + j, none⟩ (iz x)) p { R with votes := R.votes.set j x } M ∧ RTouch p M M w (w.setCell ⟨p, 11 + j, none⟩ (iz x)) :=
 h.set (11 + j) (iz x) (rcells_setVotes h.sv hj x) ⟨by simp [h.sv.v7], h.sv.m7, h.sv.x7⟩ rfl rfl rfl rfl
theorem RfAt.setCommit {w : World} {p : Nat} {R : PRaft} {M : RMem} (h : RfAt w p R M) (x : Int) : RfAt (w.setCell ⟨p, 8, none⟩ (iz x)) p { R with commit := x } M ∧ RTouch p M M w (w.setCell ⟨p, 8, none⟩ (iz x)) :=
 h.set 8 (iz x) (rcells_setHead (by omega) rfl rfl rfl rfl rfl) (h.sv.cp rfl rfl rfl) rfl rfl rfl rfl
theorem RfAt.matSl {w : World} {p : Nat} {R : PRaft} {M : RMem} (h : RfAt w p R M) {n : Nat} (h1 : 1 ≤ n) (hn : n ≤ 7) : SlAt w w.heap.size 1 (some ⟨p, 18, none⟩) (R.mat.take n).length 7 ((R.mat.take n).map (Value.int .i64)) := by
 have hl : (R.mat.take n).length = n := by rw [List.length_take, h.sv.m7]; omega
 refine ⟨by simp, by omega, by simp [maxLen], by simp, fun hp => ⟨p, 18, rfl, h.lt, fun i hi => ?_⟩⟩;rw [List.length_map, hl] at hi;rw [h.c (rcells_mat h.sv (show i < 7 by omega))];rw [List.getElem?_map, List.getElem?_take_of_lt (by omega), List.getElem?_eq_getElem (by rw [h.sv.m7]; omega)];rw [List.getD_eq_getElem?_getD, List.getElem?_eq_getElem (by rw [h.sv.m7]; omega)];rfl
set_option maxRecDepth 100000 in
set_option maxHeartbeats 1000000 in
theorem raftLook (p : Nat) (R : PRaft) (M : RMem) (hn1 : 1 ≤ R.n) (hn7 : R.n ≤ 7) (hm0 : 0 ≤ R.me) (hmn : R.me < R.n) (hg : R.line.Good) (w : World) (h : RfAt w p R M) :
  Calls Tryz.prog 52 #[.pointer (some ⟨p, 0, none⟩)] w fun e w' => e = .returned (.tuple #[]) ∧ ∃ M', RfAt w' p R.look M' ∧ RTouch p M M' w w' := by
 obtain ⟨me, hme⟩ : ∃ me : Nat, R.me = me := ⟨R.me.toNat, by omega⟩
 obtain ⟨n, hn⟩ : ∃ n : Nat, R.n = n := ⟨R.n.toNat, by omega⟩
 have hme7 : me < 7 := by omega
 have hn1' : 1 ≤ n := by omega
 have hn7' : n ≤ 7 := by omega
 have hk0 : (0 : Int) ≤ (me : Int) := by omega
 have hk1 : (me : Int) < 7 := by omega
 have hk7 : (n : Int) ≤ 7 := by omega
 have HR := Hh h;have HG := Hh hg;obtain ⟨S, hS⟩ : ∃ S : PRaft, S = { R with mat := R.mat.set me R.line.last } := ⟨_, rfl⟩
 have HSd := Hh hS;obtain ⟨I, hI⟩ : ∃ I, I = agreed (S.mat.take n) := ⟨_, rfl⟩
 have HLOOK := Hh (show R.look = if R.commit < I ∧ (tmIs R.line I).1 = R.bt then { S with commit := I } else S by
  rw [hI, hS];unfold PRaft.look;rw [show R.me.toNat = me by omega, show R.n.toNat = n by omega])
 have hc : LookS p me n w := by have h9 := h.lookS; rw [hme, hn] at h9; exact h9
 have HI := Hh hI;have HC := Hh hc;have HMN := Hh (show R.me = me ∧ R.n = n from ⟨hme, hn⟩);clear h hg hS hI hme hn hn1 hn7 hm0 hmn hc;go_enter Tryz.func52, Tryz.ntmps52
 go_wp2_with fail;refine OpR (S := LookS p me n) ?_;have hdr : Below w.heap.size w w.drew := (Below.refl _ _).drew;have HR1 := Hh (HR.out.below hdr);have hS0 : LookS p me n w.drew := by have h9 := HR1.out.lookS; rw [HMN.out.1, HMN.out.2] at h9; exact h9
 refine hT 0 6 hS0 ?_;refine hT 1 7 hS0 ?_;refine hT 2 8 hS0 ?_;refine hT 3 9 hS0 ?_;refine hT 4 10 hS0 ?_;refine hT 5 11 hS0 ?_;refine hT 7 13 hS0 ?_;refine hT 8 14 hS0 ?_;clear hS0;refine Op1 6 ?_;go_simp;refine (raftLast HG.out HR1.out).mono ?_;rintro e w2 ⟨rfl, m2, hm2⟩;have HR2 := Hh (HR1.out.drawn hm2);have hb2 : Below w.heap.size w w2 := by rw [hm2]; exact hdr.trans ((below_drewN _ m2).mono (Nat.le_refl _))
 have HB2 := Hh hb2;have hS2 : LookS p me n w2 := by have h9 := HR2.out.lookS; rw [HMN.out.1, HMN.out.2] at h9; exact h9
 refine ⟨hS2, ?_⟩;clear hm2 hdr hb2;refine hT 9 15 hS2 ?_;have p2 : w2.cell? ⟨p, 18 + me, none⟩ = some (iz (R.mat.getD me 0)) := HR2.out.c (rcells_mat HR2.out.sv hme7);have f2 := HR2.out.f (18 + me);refine Op1 10 ?_;refine wp_store_cell 3 (.tmp 15) (.tmp 12) rfl p (18 + me) (iz R.line.last) _ rfl rfl rfl (by kernel_rfl) p2 f2 ?_;obtain ⟨W3, hW3⟩ : ∃ W3, W3 = w2.setCell ⟨p, 18 + me, none⟩ (iz R.line.last) := ⟨_, rfl⟩
 rw [← hW3];obtain ⟨hr3, ht3⟩ := HR2.out.setMat hme7 R.line.last;rw [← hW3, ← HSd.out] at hr3;rw [← hW3] at ht3;have HR3 := Hh hr3;have HT3 := Hh ((RTouch.ofBelow HB2.out).trans ht3);have HSP := Hh (show S.me = me ∧ S.n = n ∧ S.line = R.line ∧ S.commit = R.commit ∧ S.bt = R.bt by rw [HSd.out]; exact ⟨HMN.out.1, HMN.out.2, rfl, rfl, rfl⟩);have hS3 : LookS p me n W3 := by have h9 := hr3.lookS; rw [HSP.out.1, HSP.out.2.1] at h9; exact h9
 refine ⟨hS3, OpE ?_⟩;clear hS3 hS2 p2 f2 hW3 hr3 ht3;go_wp2_with fail;refine OpR (S := LookS p me n) ?_;have hdr : Below W3.heap.size W3 W3.drew := (Below.refl _ _).drew;have HR4 := Hh (HR3.out.below hdr);have hS4 : LookS p me n W3.drew := by have h9 := HR4.out.lookS; rw [HSP.out.1, HSP.out.2.1] at h9; exact h9
 refine hT 0 17 hS4 ?_;refine hT 1 18 hS4 ?_;refine hT 2 19 hS4 ?_;refine hT 3 20 hS4 ?_;refine hT 4 21 hS4 ?_;refine hT 5 22 hS4 ?_;refine hT 6 23 hS4 ?_;refine heldTake 7 24 (v := .slice (some ⟨p, 18, none⟩) n 7) rfl rfl (by kernel_rfl) (by kernel_rfl) (by kernel_rfl) (fun _ _ _ h => h) hS4 (.inl ⟨by rfl, by intro w' hS; clear hS; go_simp; (try (all_goals rfl))⟩) ?_;simp only [List.set_cons_zero, List.set_cons_succ];clear hS4;refine Op1 8 ?_;go_simp;have hlen : (S.mat.take n).length = n := by rw [List.length_take, HR4.out.sv.m7]; omega
 have hcall := voteAgreed_calls (S.mat.take n) (some ⟨p, 18, none⟩) 7 _ (HR4.out.matSl hn1' hn7');rw [hlen, ← HI.out] at hcall;refine hcall.mono ?_;rintro e w5 ⟨rfl, hb5⟩;have HR5 := Hh (HR4.out.below hb5);have HT5 := Hh (HT3.out.trans (.ofBelow (hdr.trans hb5)));have hS5 : LookS p me n w5 := by have h9 := HR5.out.lookS; rw [HSP.out.1, HSP.out.2.1] at h9; exact h9
 refine ⟨hS5, ?_⟩;clear hb5 hdr hlen hcall;refine hT 9 16 hS5 ?_;refine heldTake 10 26 (v := .int .i64 I) rfl rfl (by kernel_rfl) (by kernel_rfl) (by kernel_rfl) (fun _ _ _ h => h) hS5 (.inl ⟨by rfl, by intro w' hS; clear hS; go_simp; (try (all_goals rfl))⟩) ?_;simp only [List.set_cons_zero, List.set_cons_succ];refine heldTake 11 27 (v := .bool (agreedOk (S.mat.take n))) rfl rfl (by kernel_rfl) (by kernel_rfl) (by kernel_rfl) (fun _ _ _ h => h) hS5 (.inl ⟨by rfl, by intro w' hS; clear hS; go_simp; (try (all_goals rfl))⟩) ?_;simp only [List.set_cons_zero, List.set_cons_succ];refine hT 12 2 hS5 ?_;refine hT 13 3 hS5 ?_;refine OpE ?_;clear hS5;have c4 : w5.cell? ⟨p, 4, none⟩ = some (.pointer (some ⟨M.lb, 0, none⟩)) := HR5.out.c rfl;go_wp2_with fail;have hln5 := HR5.out.ln;rw [HSP.out.2.2.1] at hln5;refine (lineTerm 0 M.lb R.line HG.out M.la M.lc M.ms I _ hln5).mono ?_;rintro e w6 ⟨rfl, m6, hm6⟩;have HR6 := Hh (HR5.out.drawn hm6);have HT6 := Hh (HT5.out.trans (.ofBelow (show Below w5.heap.size w5 w6 by rw [hm6]; exact below_drewN w5 m6)));obtain ⟨Tm, hTm⟩ : ∃ Tm, (tmIs R.line I).1 = Tm := ⟨_, rfl⟩
 rw [hTm];have HTM := Hh hTm;have c8 : w6.cell? ⟨p, 8, none⟩ = some (.int .i64 R.commit) := by rw [← HSP.out.2.2.2.1]; exact HR6.out.c rfl
 have c2 : w6.cell? ⟨p, 2, none⟩ = some (.int .i64 R.bt) := by rw [← HSP.out.2.2.2.2]; exact HR6.out.c rfl
 have f8 := HR6.out.f 8;clear hm6 hTm hln5 c4;by_cases h1 : R.commit < I
 ·have t1 : decide (R.commit < I) = true := by simpa using h1
  by_cases h2 : Tm = R.bt
  ·have t2 : (Tm == R.bt) = true := by simpa using h2
   have HF := Hh (show R.look = { S with commit := I } by rw [HLOOK.out, HTM.out, if_pos ⟨h1, h2⟩]);clear h1 h2;go_wp2;go_end0;obtain ⟨h9, h8⟩ := HR6.out.setCommit I;exact ⟨rfl, M, by rw [HF.out]; exact h9, HT6.out.trans h8⟩
  ·have t2 : (Tm == R.bt) = false := by simpa using h2
   have HF := Hh (show R.look = S by rw [HLOOK.out, HTM.out, if_neg (fun h9 => h2 h9.2)]);clear h1 h2;go_wp2;go_end0;exact ⟨rfl, M, by rw [HF.out]; exact HR6.out, HT6.out⟩
 ·have t1 : decide (R.commit < I) = false := by simpa using h1
  have HF := Hh (show R.look = S by rw [HLOOK.out, if_neg (fun h9 => h1 h9.1)]);clear h1;go_wp2;go_end0;exact ⟨rfl, M, by rw [HF.out]; exact HR6.out, HT6.out⟩
end Go.Proofs.YtogcnfhmcpkdcaaGreat
namespace Go.Proofs.YtogcnfhmcpkdcaaGreat
open Go.RowKit
set_option linter.unusedVariables false
set_option linter.unusedSimpArgs false
theorem send_eq (R : PRaft) (who : Int) : ∃ y, R.send who = { R with out := R.out ++ [y] } := by
 unfold PRaft.send;split
 ·exact ⟨_, rfl⟩
 ·exact ⟨_, rfl⟩
theorem look_eq (R : PRaft) : ∃ m c, R.look = { R with mat := m, commit := c } ∧ m = R.mat.set R.me.toNat R.line.last ∧ (c = R.commit ∨ (R.commit < c ∧ c = agreed (m.take R.n.toNat) ∧ (tmIs R.line c).1 = R.bt)) := by
 unfold PRaft.look;simp only;split
 ·rename_i h
  exact ⟨_, _, rfl, rfl, .inr ⟨h.1, rfl, h.2⟩⟩
 ·exact ⟨_, R.commit, rfl, rfl, .inl rfl⟩
theorem othersFrom_out {f : PRaft → Int → PRaft} (hf : ∀ R i, ∃ y, f R i = { R with out := R.out ++ [y] }) : ∀ (k : Nat) (i : Int) (R : PRaft), ∃ o, othersFrom f k i R = { R with out := o } ∧ o.length ≤ R.out.length + k
 | 0, i, R => ⟨R.out, rfl, by omega⟩
 | k + 1, i, R => by
  unfold othersFrom;by_cases h : i = R.me
  ·rw [if_pos h];obtain ⟨o, h1, h2⟩ := othersFrom_out hf k (i + 1) R;exact ⟨o, h1, by omega⟩
  ·rw [if_neg h];obtain ⟨y, hy⟩ := hf R i;obtain ⟨o, h1, h2⟩ := othersFrom_out hf k (i + 1) (f R i);rw [hy] at h1 h2;rw [hy];exact ⟨o, h1, by simp at h2; omega⟩
theorem others_out {f : PRaft → Int → PRaft} (hf : ∀ R i, ∃ y, f R i = { R with out := R.out ++ [y] }) (R : PRaft) : ∃ o, R.others f = { R with out := o } ∧ o.length ≤ R.out.length + R.n.toNat := othersFrom_out hf _ 0 R
theorem rep_set {α : Type} (x : α) (l : List α) (i : Nat) (h : i < l.length) : (List.replicate i x ++ l.drop i).set i x = List.replicate (i + 1) x ++ l.drop (i + 1) := by
 rw [List.set_append_right _ _ (by simp), List.length_replicate, Nat.sub_self, List.drop_eq_getElem_cons h, List.set_cons_zero, List.replicate_succ']
 simp
theorem add_at (x : PLine) (hg : x.Good) (it : PItem) : 0 ≤ (x.add it).2 ∧ (x.add it).2 ≤ 1099511627776 := by
 unfold PLine.add;split
 ·rename_i h
  have h2 := h.2;simp [fitsB] at h2;have hl : x.last = x.base + (x.l.length : Int) := rfl;have := hg.b0;simp only;omega
 ·simp
end Go.Proofs.YtogcnfhmcpkdcaaGreat
namespace Go.Proofs.YtogcnfhmcpkdcaaGreat
open Go.RowKit
set_option linter.unusedVariables false
set_option linter.unusedSimpArgs false
theorem bsNil18 (w : World) (B : Nat) : BsAt w B none ([] : List UInt8).length 0 [] := BsAt.zero _ _ _ _ (by simp [maxLen]) (fun _ => rfl)
set_option maxRecDepth 100000 in
theorem raftBeat (p : Nat) (R : PRaft) (M : RMem) (hn0 : 0 ≤ R.n) (hn7 : R.n ≤ 7) (hg : R.line.Good) (hx : ∀ x ∈ R.nxt, 0 ≤ x ∧ x ≤ 1099511627777) (ho : R.out.length ≤ 999999000) (w : World) (h : RfAt w p R M) :
  Calls Tryz.prog 39 #[.pointer (some ⟨p, 0, none⟩), .func (.func 40) #[.pointer (some ⟨p, 0, none⟩)] #[]] w fun e w' => e = .returned (.tuple #[]) ∧ ∃ M', RfAt w' p (R.others PRaft.send) M' ∧ RTouch p M M' w w' := by
 obtain ⟨n, hn⟩ : ∃ n : Nat, R.n = n := ⟨R.n.toNat, by omega⟩
 refine (raftOthers p R M 40 (enterOf Tryz.func40 (by kernel_rfl) rfl) #[.pointer (some ⟨p, 0, none⟩)] #[] PRaft.send (fun i S => ∃ o, S = { R with out := o } ∧ o.length ≤ R.out.length + i) n hn (by omega) w h ⟨R.out, rfl, by omega⟩ ?_ ?_ ?_).mono ?_
 ·rintro i S hi ⟨o, rfl, hl⟩;refine ⟨rfl, ?_⟩;split
  ·exact ⟨o, rfl, by omega⟩
  ·obtain ⟨y, hy⟩ := send_eq { R with out := o } i;rw [hy];exact ⟨_, rfl, by simp; omega⟩
 ·rintro S ⟨o, rfl, -⟩; rfl
 ·rintro i hi - S N W hr ht ⟨o, rfl, hl⟩;exact raftSend p { R with out := o } N i (by omega) hg hx (by simp only; omega) W hr
 ·rintro e w' ⟨rfl, M', h1, h2, -⟩;exact ⟨rfl, M', h1, h2⟩
theorem RfAt.setRole {w : World} {p : Nat} {R : PRaft} {M : RMem} (h : RfAt w p R M) (x : Int) : RfAt (w.setCell ⟨p, 6, none⟩ (iz x)) p { R with role := x } M ∧ RTouch p M M w (w.setCell ⟨p, 6, none⟩ (iz x)) :=
 h.set 6 (iz x) (rcells_setHead (by omega) rfl rfl rfl rfl rfl) (h.sv.cp rfl rfl rfl) rfl rfl rfl rfl
theorem RfAt.setLead {w : World} {p : Nat} {R : PRaft} {M : RMem} (h : RfAt w p R M) (x : Int) : RfAt (w.setCell ⟨p, 7, none⟩ (iz x)) p { R with lead := x } M ∧ RTouch p M M w (w.setCell ⟨p, 7, none⟩ (iz x)) :=
 h.set 7 (iz x) (rcells_setHead (by omega) rfl rfl rfl rfl rfl) (h.sv.cp rfl rfl rfl) rfl rfl rfl rfl
theorem RfAt.setTicks {w : World} {p : Nat} {R : PRaft} {M : RMem} (h : RfAt w p R M) (x : Int) : RfAt (w.setCell ⟨p, 10, none⟩ (iz x)) p { R with ticks := x } M ∧ RTouch p M M w (w.setCell ⟨p, 10, none⟩ (iz x)) :=
 h.set 10 (iz x) (rcells_setHead (by omega) rfl rfl rfl rfl rfl) (h.sv.cp rfl rfl rfl) rfl rfl rfl rfl
structure AddR (p lb : Nat) (t : Int) (W : World) : Prop where
 c4 : W.cell? ⟨p, 4, none⟩ = some (.pointer (some ⟨lb, 0, none⟩))
 c2 : W.cell? ⟨p, 2, none⟩ = some (.int .i64 t)
theorem RfAt.addR {w : World} {p : Nat} {R : PRaft} {M : RMem} (h : RfAt w p R M) : AddR p M.lb R.bt w := ⟨h.c rfl, h.c rfl⟩
set_option maxRecDepth 100000 in
set_option maxHeartbeats 2000000 in
theorem raftLead (p : Nat) (R : PRaft) (M : RMem) (hn1 : 1 ≤ R.n) (hn7 : R.n ≤ 7) (hm0 : 0 ≤ R.me) (hmn : R.me < R.n) (hg : R.line.Good) (hnw : R.news.length ≤ 999990000) (ho : R.out.length ≤ 999999000) (w : World) (h : RfAt w p R M) :
  Calls Tryz.prog 103 #[.pointer (some ⟨p, 0, none⟩)] w fun e w' => e = .returned (.tuple #[]) ∧ ∃ M', RfAt w' p R.goLead M' ∧ RTouch p M M' w w' := by
 obtain ⟨W1, hW1⟩ : ∃ W1, W1 = ((w.setCell ⟨p, 6, none⟩ (iz 2)).setCell ⟨p, 7, none⟩ (iz R.me)).setCell ⟨p, 10, none⟩ (iz 0) := ⟨_, rfl⟩
 obtain ⟨R1, hR1⟩ : ∃ R1 : PRaft, R1 = { R with role := 2, lead := R.me, ticks := 0 } := ⟨_, rfl⟩
 obtain ⟨a1, b1⟩ := h.setRole 2;obtain ⟨a2, b2⟩ := a1.setLead R.me;obtain ⟨a3, b3⟩ := a2.setTicks 0;have HA3 := Hh (show RfAt W1 p R1 M by rw [hW1, hR1]; exact a3);have HT3 := Hh (show RTouch p M M w W1 by rw [hW1]; exact (b1.trans b2).trans b3);have c0 : w.cell? ⟨p, 0, none⟩ = some (.int .i64 R.me) := h.c rfl;have c6 : w.cell? ⟨p, 6, none⟩ = some (.int .i64 R.role) := h.c rfl;have c7 : w.cell? ⟨p, 7, none⟩ = some (.int .i64 R.lead) := h.c rfl;have c10 : w.cell? ⟨p, 10, none⟩ = some (.int .i64 R.ticks) := h.c rfl;have f6 := h.f 6;have f7 := h.f 7;have f10 := h.f 10;obtain ⟨L, hL⟩ : ∃ L, L = R.line.last + 1 := ⟨_, rfl⟩
 have hLb : 0 ≤ L ∧ L ≤ 1099511627777 := by
  have h1 : R.line.last = R.line.base + (R.line.l.length : Int) := rfl;have := hg.b0;have := hg.n2;omega
 have wL : IntKind.i64.wrap L = L := IntWalk.i64_in _ (by omega);have HL := Hh hL;have HG := Hh hg;have HR1d := Hh hR1;have HW1 := Hh hW1;have HSV := Hh h.sv;have hr1l : R1.line = R.line := by rw [hR1]
 have HLN := Hh hr1l;clear h a1 a2 a3 b1 b2 b3 hg hL hR1 hW1 hr1l;go_enter Tryz.func103, Tryz.ntmps103
 go_wp2_with fail;rw [← HW1.out];clear c0 c6 c7 c10 f6 f7 f10;obtain ⟨wo, rfl⟩ : ∃ wo : World, wo = w := ⟨_, rfl⟩
 go_loopw [17] (fun iv wr => ∃ (i : Nat) (S : PRaft), iv = .int .i64 i ∧ i ≤ 7 ∧ RfAt wr p S M ∧ RTouch p M M wo wr ∧ S = { R1 with nxt := List.replicate i L ++ R.nxt.drop i, mat := List.replicate i 0 ++ R.mat.drop i }) (fun iv _ => 7 - (intOf iv).toNat)
 case atStart => exact ⟨0, R1, rfl, by omega, HA3.out, HT3.out, by rw [HR1d.out]; simp⟩
 case round =>
  obtain ⟨i, S, rfl, hi, hr, ht, hS⟩ := hrel;have HRS := Hh hr;have HT := Hh ht;have HSd := Hh hS;have HSL := Hh (show S.line = R.line by rw [hS]; exact HLN.out);clear hr ht hS;by_cases hlt : i < 7
  ·have ti : decide ((i : Int) < 7) = true := by simp; omega
   have hk0 : (0 : Int) ≤ (i : Int) := by omega
   have hk1 : (i : Int) < 7 := by omega
   go_wp2_with fail;refine OpR (S := PZ p) ?_;have hdr : Below wr.heap.size wr wr.drew := (Below.refl _ _).drew;have HR2 := Hh (HRS.out.below hdr);have hS0 : PZ p wr.drew := ⟨HR2.out.lt⟩
   refine hT 0 20 hS0 ?_;refine hT 1 21 hS0 ?_;refine hT 2 22 hS0 ?_;refine hT 3 23 hS0 ?_;refine hT 4 24 hS0 ?_;refine hT 7 27 hS0 ?_;refine hT 11 30 hS0 ?_;refine hT 8 28 hS0 ?_;refine hT 12 31 hS0 ?_;clear hS0;refine Op1 5 ?_;go_simp;refine (raftLast (by rw [HSL.out]; exact HG.out) HR2.out).mono ?_;rintro e w2 ⟨rfl, m2, hm2⟩;rw [HSL.out];have HR3 := Hh (HR2.out.drawn hm2);have HT3 := Hh (HT.out.trans (.ofBelow (show Below wr.heap.size wr w2 by rw [hm2]; exact hdr.trans ((below_drewN _ m2).mono (Nat.le_refl _)))));have hS2 : PZ p w2 := ⟨HR3.out.lt⟩
   refine ⟨hS2, ?_⟩;clear hm2 hdr;refine heldTake 6 26 (v := .int .i64 L) rfl rfl (by kernel_rfl) (by kernel_rfl) (by kernel_rfl) (fun _ _ _ h => h) hS2 (.inl ⟨by rfl, by intro w' hS; clear hS; have hLL := HL.out; go_simp; (try (rw [← HL.out])); (try simp only [wL]); (try (all_goals rfl))⟩) ?_;simp only [List.set_cons_zero, List.set_cons_succ];refine hT 9 29 hS2 ?_;obtain ⟨a4, b4⟩ := HR3.out.setNxt hlt L;have p2 : w2.cell? ⟨p, 25 + i, none⟩ = some (iz (S.nxt.getD i 0)) := HR3.out.c (rcells_nxt HR3.out.sv hlt);have f2 := HR3.out.f (25 + i);refine Op1 10 ?_;refine wp_store_cell 3 (.tmp 29) (.tmp 26) rfl p (25 + i) (iz L) _ rfl rfl rfl (by kernel_rfl) p2 f2 ?_;obtain ⟨W4, hW4⟩ : ∃ W4, W4 = w2.setCell ⟨p, 25 + i, none⟩ (iz L) := ⟨_, rfl⟩
   rw [← hW4] at a4 b4 ⊢;have HR4 := Hh a4;have HT4 := Hh (HT3.out.trans b4);have hS4 : PZ p W4 := ⟨a4.lt⟩
   refine ⟨hS4, ?_⟩;clear hS2 p2 f2 hW4 a4 b4;refine hT 13 32 hS4 ?_;obtain ⟨a5, b5⟩ := HR4.out.setMat hlt 0;have p2 : W4.cell? ⟨p, 18 + i, none⟩ = some (iz (S.mat.getD i 0)) := HR4.out.c (rcells_mat (M := M) HR4.out.sv hlt);have f2 := HR4.out.f (18 + i);refine Op1 14 ?_;refine wp_store_cell 3 (.tmp 32) _ rfl p (18 + i) (iz 0) _ rfl rfl rfl (by kernel_rfl) p2 f2 ?_;obtain ⟨W5, hW5⟩ : ∃ W5, W5 = W4.setCell ⟨p, 18 + i, none⟩ (iz 0) := ⟨_, rfl⟩
   rw [← hW5] at a5 b5 ⊢;have HR5 := Hh a5;have HT5 := Hh (HT4.out.trans b5);have hS5 : PZ p W5 := ⟨a5.lt⟩
   refine ⟨hS5, OpE ?_⟩;have HN := Hh (show ({ S with nxt := S.nxt.set i L, mat := S.mat.set i 0 } : PRaft) = { R1 with nxt := List.replicate (i + 1) L ++ R.nxt.drop (i + 1), mat := List.replicate (i + 1) 0 ++ R.mat.drop (i + 1) } by
    rw [HSd.out];simp only;rw [rep_set _ _ _ (by have := HSV.out.x7; have := HSV.out.m7; omega), rep_set _ _ _ (by have := HSV.out.x7; have := HSV.out.m7; omega)])
   clear hS4 hS5 p2 f2 hW5 a5 b5;go_wp2;go_roundw
   case rel => exact ⟨i + 1, _, by go_num, hlt, HR5.out, HT5.out, HN.out⟩
   case measure => simp [intOf]; omega
  ·have ti : decide ((i : Int) < 7) = false := by simp; omega
   have hie : i = 7 := by omega
   subst hie;have hS0 : S = R.lead0 := by
    rw [HSd.out, HR1d.out, List.drop_eq_nil_of_le (by have := HSV.out.x7; have := HSV.out.m7; omega), List.drop_eq_nil_of_le (by have := HSV.out.x7; have := HSV.out.m7; omega), List.append_nil, List.append_nil, HL.out];rfl
   subst hS0;clear hlt;go_wp2_with fail;refine OpR (S := AddR p M.lb R.bt) ?_;have hdr : Below wr.heap.size wr wr.drew := (Below.refl _ _).drew;have HR2 := Hh (HRS.out.below hdr);have hS0 : AddR p M.lb R.bt wr.drew := HR2.out.addR;refine hT 0 34 hS0 ?_;refine hT 4 38 hS0 ?_;refine hT 1 35 hS0 ?_;refine hT 5 39 hS0 ?_;refine hT 2 36 hS0 ?_;refine hT 6 40 hS0 ?_;refine hT 3 37 hS0 ?_;refine hT 7 41 hS0 ?_;refine hT 8 42 hS0 ?_;refine heldTake 9 43 (v := .agg #[.int .i64 R.bt, .slice none 0 0]) rfl rfl (by kernel_rfl) (by kernel_rfl) (by kernel_rfl) (fun _ _ _ h => h) hS0 (.inl ⟨by rfl, by intro w' hS; clear hS; go_simp; (try (all_goals rfl))⟩) ?_;simp only [List.set_cons_zero, List.set_cons_succ];clear hS0;refine Op1 10 ?_;go_simp;refine (lineAdd 0 M.lb R.line HG.out M.la M.lc M.ms R.bt none 0 [] _ HR2.out.ln (bsNil18 _ _) (Nat.zero_le _)).mono ?_;rintro e w2 ⟨rfl, hl2⟩;obtain ⟨at_, hat⟩ : ∃ a, (R.line.add (R.bt, [])).2 = a := ⟨_, rfl⟩
   rw [hat];obtain ⟨la, lc, ms, hr3, ht3⟩ := HR2.out.lined hl2;obtain ⟨R3, hR3⟩ : ∃ R3 : PRaft, R3 = { R.lead0 with line := (R.line.add (R.bt, [])).1 } := ⟨_, rfl⟩
   rw [← hR3] at hr3;obtain ⟨M3, hM3⟩ : ∃ M3 : RMem, M3 = { M with la := la, lc := lc, ms := ms } := ⟨_, rfl⟩
   rw [← hM3] at hr3 ht3;have HR3 := Hh hr3;have HT3 := Hh (HT.out.trans ((RTouch.ofBelow hdr).trans ht3));have hS2 : AddR p M.lb R.bt w2 := by
    have h9 := hr3.addR;rw [hM3, hR3] at h9;exact h9
   refine ⟨hS2, ?_⟩;refine hT 11 3 hS2 ?_;refine OpE ?_;have hab := add_at R.line HG.out (R.bt, []);rw [hat] at hab;have HGA := Hh (show R3.line.Good by rw [hR3]; exact HG.out.add _);have HL1 := Hh (show R.lead1 = if 0 < at_ then R3.noteItems at_ else R3 by
    rw [hR3, ← hat];rfl)
   have HN3 := Hh (show R3.news = R.news ∧ R3.out = R.out ∧ R3.n = R.n ∧ R3.me = R.me ∧ R3.nxt = List.replicate 7 (R.line.last + 1) by rw [hR3]; exact ⟨rfl, rfl, rfl, rfl, rfl⟩);clear hS2 hdr hl2 hr3 ht3 hat hR3 hM3;have HMEET := Hh (show ∀ (V : World) (N : RMem), RfAt V p R.lead1 N → RTouch p M N wo V → Calls Tryz.prog 52 #[.pointer (some ⟨p, 0, none⟩)] V fun e w' => e = .returned (.tuple #[]) ∧ ∃ M', RfAt w' p R.lead1.look M' ∧ RTouch p M M' wo w' from fun V N hv htv => by
    have h1 : R.lead1.n = R.n ∧ R.lead1.me = R.me ∧ R.lead1.line = R3.line := by
     rw [HL1.out];split
     ·exact ⟨HN3.out.2.2.1, HN3.out.2.2.2.1, rfl⟩
     ·exact ⟨HN3.out.2.2.1, HN3.out.2.2.2.1, rfl⟩
    exact (raftLook p R.lead1 N (by rw [h1.1]; exact hn1) (by rw [h1.1]; exact hn7) (by rw [h1.2.1]; exact hm0) (by rw [h1.1, h1.2.1]; exact hmn) (by rw [h1.2.2]; exact HGA.out) V hv).mono fun e w' ⟨h2, M', h3, h4⟩ => ⟨h2, M', h3, htv.trans h4⟩)
   have HBEAT := Hh (show ∀ (V : World) (N : RMem), RfAt V p R.lead1.look N → RTouch p M N wo V → Calls Tryz.prog 39 #[.pointer (some ⟨p, 0, none⟩), .func (.func 40) #[.pointer (some ⟨p, 0, none⟩)] #[]] V fun e w' => e = .returned (.tuple #[]) ∧ ∃ M', RfAt w' p R.goLead M' ∧ RTouch p M M' wo w' from fun V N hv htv => by
    obtain ⟨m9, c9, hl9, -, -⟩ := look_eq R.lead1;have h1 : R.lead1.look.n = R.n ∧ R.lead1.look.line = R3.line ∧ R.lead1.look.nxt = R3.nxt ∧ R.lead1.look.out = R.out := by
     rw [hl9];show R.lead1.n = _ ∧ R.lead1.line = _ ∧ R.lead1.nxt = _ ∧ R.lead1.out = _;rw [HL1.out];split
     ·exact ⟨HN3.out.2.2.1, rfl, rfl, HN3.out.2.1⟩
     ·exact ⟨HN3.out.2.2.1, rfl, rfl, HN3.out.2.1⟩
    refine (raftBeat p R.lead1.look N (by rw [h1.1]; omega) (by rw [h1.1]; exact hn7) (by rw [h1.2.1]; exact HGA.out) (fun x hx => ?_) (by rw [h1.2.2.2]; exact ho) V hv).mono fun e w' ⟨h2, M', h3, h4⟩ => ⟨h2, M', h3, htv.trans h4⟩
    rw [h1.2.2.1, HN3.out.2.2.2.2, ← HL.out] at hx;obtain ⟨-, rfl⟩ := List.mem_replicate.1 hx;exact hLb)
   by_cases hat0 : 0 < at_
   ·have t1 : decide (0 < at_) = true := by simpa using hat0
    have HL2 := Hh (show R.lead1 = R3.noteItems at_ by rw [HL1.out, if_pos hat0]);have HNI := Hh (raftNoteItems p R3 M3 at_ hab.1 hab.2 HGA.out (by rw [HN3.out.1]; omega) _ HR3.out);clear hat0 hab;go_wp2_with fail;refine HNI.out.mono ?_;rintro e w4 ⟨rfl, N4, hr4, ht4⟩;rw [← HL2.out] at hr4;have HR4 := Hh hr4;have HT4 := Hh (HT3.out.trans ht4);clear hr4 ht4;go_wp2_with fail;refine (HMEET.out _ _ HR4.out HT4.out).mono ?_;rintro e w5 ⟨rfl, N5, hr5, ht5⟩;have HR5 := Hh hr5;have HT5 := Hh ht5;clear hr5 ht5;go_wp2_with fail;refine (HBEAT.out _ _ HR5.out HT5.out).mono ?_;rintro e w6 ⟨rfl, N6, hr6, ht6⟩;have HR6 := Hh hr6;have HT6 := Hh ht6;clear hr6 ht6;go_wp2;go_end0;exact ⟨rfl, N6, HR6.out, HT6.out⟩
   ·have t1 : decide (0 < at_) = false := by simpa using hat0
    have HL2 := Hh (show R.lead1 = R3 by rw [HL1.out, if_neg hat0]);clear hat0 hab;go_wp2_with fail;refine (HMEET.out _ _ (by rw [HL2.out]; exact HR3.out) HT3.out).mono ?_;rintro e w5 ⟨rfl, N5, hr5, ht5⟩;have HR5 := Hh hr5;have HT5 := Hh ht5;clear hr5 ht5;go_wp2_with fail;refine (HBEAT.out _ _ HR5.out HT5.out).mono ?_;rintro e w6 ⟨rfl, N6, hr6, ht6⟩;have HR6 := Hh hr6;have HT6 := Hh ht6;clear hr6 ht6;go_wp2;go_end0;exact ⟨rfl, N6, HR6.out, HT6.out⟩
end Go.Proofs.YtogcnfhmcpkdcaaGreat
namespace Go.Proofs.YtogcnfhmcpkdcaaGreat
open Go.RowKit
set_option linter.unusedVariables false
set_option linter.unusedSimpArgs false
theorem sumI_bd : ∀ (l : List Int), (∀ x ∈ l, 0 ≤ x ∧ x ≤ 1) → 0 ≤ sumI l ∧ sumI l ≤ (l.length : Int)
 | [], _ => by simp [sumI]
 | x :: l, h => by
  have h1 := sumI_bd l (fun y hy => h y (by simp [hy]));have h2 := h x (by simp);simp only [sumI, List.length_cons];omega
theorem sumI_take (l : List Int) (i : Nat) (h : i < l.length) : sumI (l.take (i + 1)) = sumI (l.take i) + l.getD i 0 := by
 induction l generalizing i with
 | nil => simp at h
 | cons x l ih =>
  cases i with
  | zero => simp [sumI]
  | succ i =>
   have := ih i (by simpa using h);simp only [List.take_succ_cons, sumI, this, List.getD_cons_succ];omega
theorem idx7_0 (v0 v1 v2 v3 v4 v5 v6 : Int) (w : World) : Sem.run Tryz.prog (Instr.index 82 (.agg #[iz v0, iz v1, iz v2, iz v3, iz v4, iz v5, iz v6]) (.int .i64 0)) w = .ok (iz v0) w := by kernel_rfl
theorem idx7_1 (v0 v1 v2 v3 v4 v5 v6 : Int) (w : World) : Sem.run Tryz.prog (Instr.index 82 (.agg #[iz v0, iz v1, iz v2, iz v3, iz v4, iz v5, iz v6]) (.int .i64 1)) w = .ok (iz v1) w := by kernel_rfl
theorem idx7_2 (v0 v1 v2 v3 v4 v5 v6 : Int) (w : World) : Sem.run Tryz.prog (Instr.index 82 (.agg #[iz v0, iz v1, iz v2, iz v3, iz v4, iz v5, iz v6]) (.int .i64 2)) w = .ok (iz v2) w := by kernel_rfl
theorem idx7_3 (v0 v1 v2 v3 v4 v5 v6 : Int) (w : World) : Sem.run Tryz.prog (Instr.index 82 (.agg #[iz v0, iz v1, iz v2, iz v3, iz v4, iz v5, iz v6]) (.int .i64 3)) w = .ok (iz v3) w := by kernel_rfl
theorem idx7_4 (v0 v1 v2 v3 v4 v5 v6 : Int) (w : World) : Sem.run Tryz.prog (Instr.index 82 (.agg #[iz v0, iz v1, iz v2, iz v3, iz v4, iz v5, iz v6]) (.int .i64 4)) w = .ok (iz v4) w := by kernel_rfl
theorem idx7_5 (v0 v1 v2 v3 v4 v5 v6 : Int) (w : World) : Sem.run Tryz.prog (Instr.index 82 (.agg #[iz v0, iz v1, iz v2, iz v3, iz v4, iz v5, iz v6]) (.int .i64 5)) w = .ok (iz v5) w := by kernel_rfl
theorem idx7_6 (v0 v1 v2 v3 v4 v5 v6 : Int) (w : World) : Sem.run Tryz.prog (Instr.index 82 (.agg #[iz v0, iz v1, iz v2, iz v3, iz v4, iz v5, iz v6]) (.int .i64 6)) w = .ok (iz v6) w := by kernel_rfl
set_option maxRecDepth 100000 in
set_option maxHeartbeats 2000000 in
theorem raftCount (p : Nat) (R : PRaft) (M : RMem) (who : Nat) (hw : who < 7) (hn1 : 1 ≤ R.n) (hn7 : R.n ≤ 7) (hm0 : 0 ≤ R.me) (hmn : R.me < R.n) (hg : R.line.Good) (hv : ∀ x ∈ R.votes, 0 ≤ x ∧ x ≤ 1) (hnw : R.news.length ≤ 999990000) (ho : R.out.length ≤ 999999000) (w : World) (h : RfAt w p R M) :
  Calls Tryz.prog 72 #[.pointer (some ⟨p, 0, none⟩), .int .i64 who] w fun e w' => e = .returned (.tuple #[]) ∧ ∃ M', RfAt w' p (R.count who) M' ∧ RTouch p M M' w w' := by
 obtain ⟨S, hS⟩ : ∃ S : PRaft, S = { R with votes := R.votes.set who 1 } := ⟨_, rfl⟩
 obtain ⟨a1, b1⟩ := h.setVotes hw 1;rw [← hS] at a1;obtain ⟨V, hV⟩ : ∃ V, V = w.setCell ⟨p, 11 + who, none⟩ (iz 1) := ⟨_, rfl⟩
 rw [← hV] at a1 b1;have hk0 : (0 : Int) ≤ (who : Int) := by omega
 have hk1 : (who : Int) < 7 := by omega
 have p2 : w.cell? ⟨p, 11 + who, none⟩ = some (iz (R.votes.getD who 0)) := h.c (rcells_votes h.sv hw);have f2 := h.f (11 + who);have HSV := Hh (show ∀ x ∈ S.votes, 0 ≤ x ∧ x ≤ 1 from fun x hx => by
  rw [hS] at hx;rcases List.mem_or_eq_of_mem_set hx with h9 | rfl
  ·exact hv x h9
  ·omega)
 have HSF := Hh (show S.n = R.n ∧ S.me = R.me ∧ S.line = R.line ∧ S.news = R.news ∧ S.out = R.out by rw [hS]; exact ⟨rfl, rfl, rfl, rfl, rfl⟩);have HCNT := Hh (show R.count who = if enough R.n ≤ sumI S.votes then S.goLead else S by
  rw [hS];unfold PRaft.count;rw [Int.toNat_natCast])
 have HS := Hh a1;have HT := Hh b1;have HG := Hh hg;have HV := Hh hV;have h7 := a1.sv.v7;clear h a1 b1 hS hV hv hg;obtain ⟨v0, v1, v2, v3, v4, v5, v6, hvs⟩ := list7 h7;have HVS := Hh hvs;have d0 : V.cell? ⟨p, 11, none⟩ = some (iz v0) := by have h9 := HS.out.c (rcells_votes (M := M) HS.out.sv (show 0 < 7 by omega)); rw [hvs] at h9; exact h9
 have d1 : V.cell? ⟨p, 12, none⟩ = some (iz v1) := by have h9 := HS.out.c (rcells_votes (M := M) HS.out.sv (show 1 < 7 by omega)); rw [hvs] at h9; exact h9
 have d2 : V.cell? ⟨p, 13, none⟩ = some (iz v2) := by have h9 := HS.out.c (rcells_votes (M := M) HS.out.sv (show 2 < 7 by omega)); rw [hvs] at h9; exact h9
 have d3 : V.cell? ⟨p, 14, none⟩ = some (iz v3) := by have h9 := HS.out.c (rcells_votes (M := M) HS.out.sv (show 3 < 7 by omega)); rw [hvs] at h9; exact h9
 have d4 : V.cell? ⟨p, 15, none⟩ = some (iz v4) := by have h9 := HS.out.c (rcells_votes (M := M) HS.out.sv (show 4 < 7 by omega)); rw [hvs] at h9; exact h9
 have d5 : V.cell? ⟨p, 16, none⟩ = some (iz v5) := by have h9 := HS.out.c (rcells_votes (M := M) HS.out.sv (show 5 < 7 by omega)); rw [hvs] at h9; exact h9
 have d6 : V.cell? ⟨p, 17, none⟩ = some (iz v6) := by have h9 := HS.out.c (rcells_votes (M := M) HS.out.sv (show 6 < 7 by omega)); rw [hvs] at h9; exact h9
 rw [HV.out] at d0 d1 d2 d3 d4 d5 d6;clear hvs h7;go_enter Tryz.func72, Tryz.ntmps72
 go_wp2_with fail;rw [← HV.out];clear p2 f2 d0 d1 d2 d3 d4 d5 d6;obtain ⟨wo, rfl⟩ : ∃ wo : World, wo = V := ⟨_, rfl⟩
 go_loopw [4, 16] (fun sv iv wr => ∃ (i : Nat), iv = .int .i64 i ∧ sv = .int .i64 (sumI (S.votes.take i)) ∧ i ≤ 7 ∧ wr = wo) (fun _ iv _ => 7 - (intOf iv).toNat)
 case atStart => exact ⟨0, rfl, rfl, by omega, rfl⟩
 case round =>
  obtain ⟨i, rfl, rfl, hi, rfl⟩ := hrel;by_cases hlt : i < 7
  ·have ti : decide ((i : Int) < 7) = true := by simp; omega
   have hst := sumI_take S.votes i (by rw [HVS.out]; exact hlt);have hsb := sumI_bd (S.votes.take i) (fun x hx => HSV.out x (List.mem_of_mem_take hx));rw [List.length_take] at hsb;obtain ⟨s, hs⟩ : ∃ s, s = sumI (S.votes.take i) := ⟨_, rfl⟩
   rw [← hs] at hst hsb ⊢;have HST := Hh hst;have hsb7 : s ≤ 7 := by omega
   have hs0 := hsb.1;have HVB := Hh (show 0 ≤ S.votes.getD i 0 ∧ S.votes.getD i 0 ≤ 1 from by
    have hl : i < S.votes.length := by rw [HVS.out]; exact hlt
    rw [List.getD_eq_getElem?_getD, List.getElem?_eq_getElem hl];exact HSV.out _ (List.getElem_mem hl))
   clear hst hsb hs;rcases (show i = 0 ∨ i = 1 ∨ i = 2 ∨ i = 3 ∨ i = 4 ∨ i = 5 ∨ i = 6 by omega) with rfl | rfl | rfl | rfl | rfl | rfl | rfl
   ·have hx : S.votes.getD 0 0 = v0 := by rw [HVS.out]; rfl
    have wv : IntKind.i64.wrap (s + v0) = s + v0 := IntWalk.i64_in _ (by have := HVB.out; rw [hx] at this; omega);have HX := Hh hx;have hix := idx7_0 v0 v1 v2 v3 v4 v5 v6;clear hx;go_wp2;go_roundw
    case rel => exact ⟨1, by go_num, by rw [HST.out, HX.out], by omega, trivial⟩
    case measure => simp [intOf]
   ·have hx : S.votes.getD 1 0 = v1 := by rw [HVS.out]; rfl
    have wv : IntKind.i64.wrap (s + v1) = s + v1 := IntWalk.i64_in _ (by have := HVB.out; rw [hx] at this; omega);have HX := Hh hx;have hix := idx7_1 v0 v1 v2 v3 v4 v5 v6;clear hx;go_wp2;go_roundw
    case rel => exact ⟨2, by go_num, by rw [HST.out, HX.out], by omega, trivial⟩
    case measure => simp [intOf]
   ·have hx : S.votes.getD 2 0 = v2 := by rw [HVS.out]; rfl
    have wv : IntKind.i64.wrap (s + v2) = s + v2 := IntWalk.i64_in _ (by have := HVB.out; rw [hx] at this; omega);have HX := Hh hx;have hix := idx7_2 v0 v1 v2 v3 v4 v5 v6;clear hx;go_wp2;go_roundw
    case rel => exact ⟨3, by go_num, by rw [HST.out, HX.out], by omega, trivial⟩
    case measure => simp [intOf]
   ·have hx : S.votes.getD 3 0 = v3 := by rw [HVS.out]; rfl
    have wv : IntKind.i64.wrap (s + v3) = s + v3 := IntWalk.i64_in _ (by have := HVB.out; rw [hx] at this; omega);have HX := Hh hx;have hix := idx7_3 v0 v1 v2 v3 v4 v5 v6;clear hx;go_wp2;go_roundw
    case rel => exact ⟨4, by go_num, by rw [HST.out, HX.out], by omega, trivial⟩
    case measure => simp [intOf]
   ·have hx : S.votes.getD 4 0 = v4 := by rw [HVS.out]; rfl
    have wv : IntKind.i64.wrap (s + v4) = s + v4 := IntWalk.i64_in _ (by have := HVB.out; rw [hx] at this; omega);have HX := Hh hx;have hix := idx7_4 v0 v1 v2 v3 v4 v5 v6;clear hx;go_wp2;go_roundw
    case rel => exact ⟨5, by go_num, by rw [HST.out, HX.out], by omega, trivial⟩
    case measure => simp [intOf]
   ·have hx : S.votes.getD 5 0 = v5 := by rw [HVS.out]; rfl
    have wv : IntKind.i64.wrap (s + v5) = s + v5 := IntWalk.i64_in _ (by have := HVB.out; rw [hx] at this; omega);have HX := Hh hx;have hix := idx7_5 v0 v1 v2 v3 v4 v5 v6;clear hx;go_wp2;go_roundw
    case rel => exact ⟨6, by go_num, by rw [HST.out, HX.out], by omega, trivial⟩
    case measure => simp [intOf]
   ·have hx : S.votes.getD 6 0 = v6 := by rw [HVS.out]; rfl
    have wv : IntKind.i64.wrap (s + v6) = s + v6 := IntWalk.i64_in _ (by have := HVB.out; rw [hx] at this; omega);have HX := Hh hx;have hix := idx7_6 v0 v1 v2 v3 v4 v5 v6;clear hx;go_wp2;go_roundw
    case rel => exact ⟨7, by go_num, by rw [HST.out, HX.out], by omega, trivial⟩
    case measure => simp [intOf]
  ·have ti : decide ((i : Int) < 7) = false := by simp; omega
   have hie : i = 7 := by omega
   subst hie;have hall : S.votes.take 7 = S.votes := List.take_of_length_le (by have := HS.out.sv.v7; omega);rw [hall];obtain ⟨s, hs⟩ : ∃ s, sumI S.votes = s := ⟨_, rfl⟩
   rw [hs];have HSM := Hh hs;have c1 : wr.cell? ⟨p, 1, none⟩ = some (.int .i64 R.n) := by rw [← HSF.out.1]; exact HS.out.c rfl
   clear hlt hall hs;go_wp2_with fail;refine (voteEnough_calls R.n _).mono ?_;rintro e w1 ⟨rfl, rfl⟩;by_cases he : enough R.n ≤ s
   ·have t1 : decide (enough R.n ≤ s) = true := by simpa using he
    have HC := Hh (show R.count who = S.goLead by rw [HCNT.out, HSM.out, if_pos he]);clear he c1;go_wp2_with fail;refine (raftLead p S M (by rw [HSF.out.1]; exact hn1) (by rw [HSF.out.1]; exact hn7) (by rw [HSF.out.2.1]; exact hm0) (by rw [HSF.out.1, HSF.out.2.1]; exact hmn) (by rw [HSF.out.2.2.1]; exact HG.out) (by rw [HSF.out.2.2.2.1]; exact hnw) (by rw [HSF.out.2.2.2.2]; exact ho) _ HS.out).mono ?_;rintro e w2 ⟨rfl, M', hr2, ht2⟩;have HR2 := Hh hr2;have HT2 := Hh (HT.out.trans ht2);clear hr2 ht2;go_wp2;go_end0;exact ⟨rfl, M', by rw [HC.out]; exact HR2.out, HT2.out⟩
   ·have t1 : decide (enough R.n ≤ s) = false := by simpa using he
    have HC := Hh (show R.count who = S by rw [HCNT.out, HSM.out, if_neg he]);clear he c1;go_wp2;go_end0;exact ⟨rfl, M, by rw [HC.out]; exact HS.out, HT.out⟩
end Go.Proofs.YtogcnfhmcpkdcaaGreat
