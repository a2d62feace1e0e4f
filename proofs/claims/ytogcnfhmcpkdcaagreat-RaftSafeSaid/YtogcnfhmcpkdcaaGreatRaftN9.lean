/-
  Contract of Compact (without the texts of letters).
-/
import Derived.Test.YtogcnfhmcpkdcaaGreatRaftNA
import Derived.Test.YtogcnfhmcpkdcaaGreatRaftM6
namespace Go.Proofs.YtogcnfhmcpkdcaaGreat
open Go.RowKit
set_option linter.unusedVariables false
set_option linter.unusedSimpArgs false
section
theorem RfAt.setState9 {w : World} {p : Nat} {R : PRaft} {M : RMem} (h : RfAt w p R M) {a : Option Addr} {c : Nat} {s : List UInt8} (hb : ByAt w a c s) : RfAt (w.setCell ⟨p, 5, none⟩ (.slice a s.length c)) p { R with state := s } { M with sa := a, sc := c } ∧ RTouch p M { M with sa := a, sc := c } w (w.setCell ⟨p, 5, none⟩ (.slice a s.length c)) := by
 have hoth : ∀ k, k ≠ p → (w.setCell ⟨p, 5, none⟩ (.slice a s.length c)).heap[k]? = w.heap[k]? := fun k hk => Below.heap_setCell _ _ _ k hk
 obtain ⟨a1, a2, a3, a4, -⟩ := h.apart;have hT : RTouch p M { M with sa := a, sc := c } w (w.setCell ⟨p, 5, none⟩ (.slice a s.length c)) := ⟨rfl, rfl, rfl, by simp, fun k hk hno => hoth k (fun e => hno (.inl e)), fun k hk => .inl hk⟩
 have h9 := heap_setCell_same w p 5 _ _ (.slice a s.length c) h.row;refine ⟨⟨h.sv.cp rfl rfl rfl, ?_, h.lnKeep hT (hoth _ a1) fun k hk => hoth k (fun e => a2 (by rw [← e]; exact hk)), h.keeps hT hb, own_mv9 h.nw fun g hg => hoth g (fun e => by rw [ownBlock_eq] at hg; exact a3 (by rw [← e]; exact hg)), fun m hm => h.keeps hT (h.nb m hm), h.nq, own_mv9 h.ou fun g hg => hoth g (fun e => by rw [ownBlock_eq] at hg; exact a4 (by rw [← e]; exact hg)), h.oq, h.postKeep hT rfl rfl⟩, hT⟩;rw [h9, ← rcells_setHead (R := R) (R' := { R with state := s }) (M := M) (M' := { M with sa := a, sc := c }) (j := 5) (x := .slice a s.length c) (by omega) rfl rfl rfl rfl rfl]
 simp
structure CptS (p lb : Nat) (ap : Int) (W : World) : Prop where
 c4 : W.cell? ⟨p, 4, none⟩ = some (.pointer (some ⟨lb, 0, none⟩))
 c9 : W.cell? ⟨p, 9, none⟩ = some (.int .i64 ap)
theorem RfAt.cptS {w : World} {p : Nat} {R : PRaft} {M : RMem} (h : RfAt w p R M) : CptS p M.lb R.applied w := ⟨h.c rfl, h.c rfl⟩
theorem drop_yes {R : PRaft} (h : R.Ok) : (R.line.drop R.applied).2 = true := by
 have h1 := h.ap0; have h2 := h.ap1; have h3 := h.cm;have h4 : ¬ R.line.tm R.applied < 0 := by have := (h.line.tm_ge R.applied).2 ⟨by omega, by omega⟩; omega
 unfold PLine.drop; rw [if_neg h4]
set_option maxRecDepth 100000 in
set_option maxHeartbeats 2000000 in
theorem raftCompact (p : Nat) (R : PRaft) (M : RMem) (b : List UInt8) (ba : Option Addr) (bc : Nat) (hok : R.Ok) (w : World) (hb : BsAt w w.heap.size ba b.length bc b) (hf : 0 < b.length → ∀ ad, ba = some ad → ¬ M.own p ad.block) (h : RfAt w p R M) :
  Calls Tryz.prog 15 #[.pointer (some ⟨p, 0, none⟩), .slice ba b.length bc] w fun e w' => e = .returned (.bool (R.compact b).2) ∧ ∃ M', RfAt w' p (R.compact b).1 M' ∧ RTouch p M M' w w' := by
 have c4 : w.cell? ⟨p, 4, none⟩ = some (.pointer (some ⟨M.lb, 0, none⟩)) := h.c rfl;have HR := Hh h;have HOK := Hh hok;have HBS := Hh hb;have HFA := Hh hf;have HDY := Hh (drop_yes hok);have hbig := hb.hbig;have hb0 := hok.line.b0;have HCP := Hh (show R.compact b = if R.applied = R.line.base ∨ 65536 < b.length then (R, false) else ({ R with line := (R.line.drop R.applied).1, state := b }, true) by
  unfold PRaft.compact;rw [drop_yes hok]
  simp)
 clear h hok hb hf;go_enter Tryz.func15, Tryz.ntmps15
 go_wp2_with fail;refine (lineBase 0 M.lb R.line M.la M.lc M.ms _ HR.out.ln).mono ?_;rintro e w1 ⟨rfl, m1, hm1⟩;have HB1 := Hh (show Below w.heap.size w w1 by rw [hm1]; exact below_drewN w m1);have HR1 := Hh (HR.out.drawn hm1);have hs1 := HB1.out.size;clear hm1 c4;by_cases h1 : R.applied = R.line.base
 ·have t1 : (R.applied == R.line.base) = true := by simpa using h1
  have HF := Hh (show R.compact b = (R, false) by rw [HCP.out, if_pos (.inl h1)]);clear h1;go_wp2_with fail;refine OpG (S := CptS p M.lb R.applied) ?_;intro w2 hdr;have HR2 := Hh (HR1.out.below hdr);have hS := HR2.out.cptS;refine hT 0 15 hS ?_;refine hT 4 19 hS ?_;refine hT 1 16 hS ?_;refine hT 2 17 hS ?_;refine hT 3 18 hS ?_;refine hT 5 20 hS ?_;refine hT 6 21 hS ?_;refine hN 7 22 hS ?_;refine hN 8 23 hS ?_;refine hN 9 24 hS ?_;refine hV 10 25 (.bool true) hS ?_;refine hT 11 26 hS ?_;refine hN 12 27 hS ?_;refine hN 16 31 hS ?_;refine hN 13 28 hS ?_;refine hN 17 32 hS ?_;refine hN 14 29 hS ?_;refine hN 18 33 hS ?_;refine hN 15 30 hS ?_;refine hN 19 34 hS ?_;refine hN 20 35 hS ?_;refine hN 21 36 hS ?_;refine hV 22 37 (.bool true) hS ?_;refine OpE ?_;have HT2 := Hh (show RTouch p M M w w2 from (RTouch.ofBelow HB1.out).trans (.ofBelow hdr));clear hS hdr;go_wp2;go_ret;rw [HF.out];exact ⟨rfl, M, HR2.out, HT2.out⟩
 have t1 : (R.applied == R.line.base) = false := by simpa using h1
 by_cases h2 : 65536 < b.length
 ·have t2 : decide ((65536 : Int) < (b.length : Int)) = true := decide_eq_true (by omega);have HF := Hh (show R.compact b = (R, false) by rw [HCP.out, if_pos (.inr h2)]);clear h1 h2;go_wp2_with fail;refine OpG (S := CptS p M.lb R.applied) ?_;intro w2 hdr;have HR2 := Hh (HR1.out.below hdr);have hS := HR2.out.cptS;refine hT 0 15 hS ?_;refine hT 4 19 hS ?_;refine hT 1 16 hS ?_;refine hT 2 17 hS ?_;refine hT 3 18 hS ?_;refine hT 5 20 hS ?_;refine hT 6 21 hS ?_;refine hT 7 22 hS ?_;refine hV 8 23 (.int .i64 (b.length : Int)) hS ?_;refine hV 9 24 (.bool true) hS ?_;refine hV 10 25 (.bool true) hS ?_;refine hT 11 26 hS ?_;refine hN 12 27 hS ?_;refine hN 16 31 hS ?_;refine hN 13 28 hS ?_;refine hN 17 32 hS ?_;refine hN 14 29 hS ?_;refine hN 18 33 hS ?_;refine hN 15 30 hS ?_;refine hN 19 34 hS ?_;refine hN 20 35 hS ?_;refine hN 21 36 hS ?_;refine hV 22 37 (.bool true) hS ?_;refine OpE ?_;have HT2 := Hh (show RTouch p M M w w2 from (RTouch.ofBelow HB1.out).trans (.ofBelow hdr));clear hS hdr;go_wp2;go_ret;rw [HF.out];exact ⟨rfl, M, HR2.out, HT2.out⟩
 have t2 : decide ((65536 : Int) < (b.length : Int)) = false := decide_eq_false (by omega);have HF := Hh (show R.compact b = ({ R with line := (R.line.drop R.applied).1, state := b }, true) by rw [HCP.out, if_neg (fun h9 => h9.elim h1 h2)]);clear h1 h2;go_wp2_with fail;refine OpG (S := CptS p M.lb R.applied) ?_;intro w2 hdr;have HR2 := Hh (HR1.out.below hdr);have hS := HR2.out.cptS;refine hT 0 15 hS ?_;refine hT 4 19 hS ?_;refine hT 1 16 hS ?_;refine hT 2 17 hS ?_;refine hT 3 18 hS ?_;refine hT 5 20 hS ?_;refine hT 6 21 hS ?_;refine hT 7 22 hS ?_;refine hV 8 23 (.int .i64 (b.length : Int)) hS ?_;refine hV 9 24 (.bool false) hS ?_;refine hV 10 25 (.bool false) hS ?_;refine hT 11 26 hS ?_;refine hT 12 27 hS ?_;refine hT 16 31 hS ?_;refine hT 13 28 hS ?_;refine hT 17 32 hS ?_;refine hT 14 29 hS ?_;refine hT 18 33 hS ?_;refine hT 15 30 hS ?_;refine hT 19 34 hS ?_;clear hS;refine Op1 20 ?_;go_simp;refine (lineDrop 0 M.lb R.line HOK.out.line M.la M.lc M.ms R.applied _ HR2.out.ln (Nat.zero_le _)).mono ?_;rintro e w6 ⟨rfl, hl6⟩;rw [HDY.out];obtain ⟨la6, lc6, ms6, a6, b6⟩ := HR2.out.lined hl6;obtain ⟨M6, hM6⟩ : ∃ M6 : RMem, M6 = { M with la := la6, lc := lc6, ms := ms6 } := ⟨_, rfl⟩
 rw [← hM6] at a6 b6;have HR6 := Hh a6;have HT16 := (show RTouch p M M6 w w6 from (RTouch.ofBelow (HB1.out.trans (hdr.mono hs1))).trans b6)
 have HBS6 := Hh (HBS.out.touch HT16 HFA.out);have HT6 := Hh HT16;have hS6 : CptS p M.lb R.applied w6 := ⟨by have h9 : w6.cell? ⟨p, 4, none⟩ = some (.pointer (some ⟨M6.lb, 0, none⟩)) := a6.c rfl; rw [hM6] at h9; exact h9, a6.c rfl⟩
 clear HT16 hM6 a6 b6 hl6 hdr;refine ⟨hS6, ?_⟩;refine hV 21 36 (.bool false) hS6 ?_;refine hV 22 37 (.bool false) hS6 ?_;refine OpE ?_;clear hS6;go_wp2_with fail;refine (cloneBy b ba bc _ HBS6.out).mono ?_;rintro e w7 ⟨sa, sc, rfl, hby, hb7⟩;have hr7 := HR6.out.below hb7;obtain ⟨a8, b8⟩ := hr7.setState9 hby;obtain ⟨w8, hw8⟩ : ∃ w8, w8 = w7.setCell ⟨p, 5, none⟩ (.slice sa b.length sc) := ⟨_, rfl⟩
 rw [← hw8] at a8 b8;have HR8 := Hh a8;have HT8 := Hh ((HT6.out.trans (.ofBelow hb7)).trans b8);have HW8 := Hh hw8;have c5 : w7.cell? ⟨p, 5, none⟩ = some (.slice M6.sa R.state.length M6.sc) := hr7.c rfl;have f5 := hr7.f 5;clear hby hb7 hr7 a8 b8 hw8;go_wp2;go_ret;rw [HF.out, ← HW8.out];exact ⟨rfl, _, HR8.out, HT8.out⟩
end
end Go.Proofs.YtogcnfhmcpkdcaaGreat
