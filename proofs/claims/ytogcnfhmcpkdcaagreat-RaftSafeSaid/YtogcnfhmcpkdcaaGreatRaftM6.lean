/-
  Contract of place.
  Contract of the reading function of readNote.
  Contract of readNote.
  Contract of Load.
  The plain law of loading: what is loaded has a head that loads to itself.
  The plain law of what lasts: with the notes since a head a replica that begins anew has what it had. No walk.
-/
import Derived.Test.YtogcnfhmcpkdcaaGreatRaftM4
import Derived.Test.YtogcnfhmcpkdcaaGreatRaftM3
import Derived.Test.YtogcnfhmcpkdcaaGreatRaftLaw3
namespace Go.Proofs.YtogcnfhmcpkdcaaGreat
open Go.RowKit
set_option linter.unusedVariables false
set_option linter.unusedSimpArgs false
theorem Spoiled.touch {w w' : World} {p : Nat} (h : Spoiled p w w') (M : RMem) : RTouch p M M w w' :=
 ⟨h.os, h.tape, h.output, h.size, fun k hk hn => h.block k hk (fun e => hn (.inl e)), fun _ h => .inl h⟩
theorem Spoiled.ofBelow {p : Nat} {w w' : World} (h : Below w.heap.size w w') : Spoiled p w w' := ⟨h.os, h.tape, h.output, h.size, fun k hk _ => h.block k hk⟩
theorem BsAt.setFar {w : World} {B : Nat} {a : Option Addr} {n c : Nat} {l : List UInt8} (h : BsAt w B a n c l) {ad : Addr} {u : Value} (hc : w.cell? ad = some u) (hu : ∀ x : Int, u ≠ .int .u8 x) (v : Value) : BsAt (w.setCell ad v) B a n c l :=
 ⟨h.hlen, h.hle, h.hmax, h.hnil, h.hbig, fun hp => let ⟨b, o, e, hl, hcc⟩ := h.hat hp; ⟨b, o, e, hl, fun i hi => (World.cell?_setCell_other _ _ _ _ (fun e9 => by
  have h8 := hcc i hi;rw [← e9, hc] at h8;injection h8 with h8
  exact hu _ h8)).trans (hcc i hi)⟩⟩
def PLine.upTo (x : PLine) (at_ : Int) : PLine := ⟨x.base, x.term, x.l.take (at_ - x.base - 1).toNat⟩
def PRaft.place (R : PRaft) (at_ : Int) (it : PItem) : Option PRaft :=
 if at_ ≤ R.line.base ∨ R.line.last + 1 < at_ then none
 else if ((R.line.upTo at_).add it).2 = at_ then some { R with line := ((R.line.upTo at_).add it).1 } else none
theorem from_pre (x : PLine) (n : Int) : x.from_ (x.base + 1) n = x.l.take n.toNat := by
 unfold PLine.from_;have hl : x.last = x.base + (x.l.length : Int) := rfl;by_cases h : x.base + 1 ≤ x.base ∨ x.last < x.base + 1 ∨ n < 1
 ·rw [if_pos h];rcases h with h | h | h
  ·omega
  ·rw [List.eq_nil_of_length_eq_zero (show x.l.length = 0 by omega)]; simp
  ·rw [show n.toNat = 0 by omega]; simp
 ·rw [if_neg h, show (x.base + 1 - x.base - 1).toNat = 0 by omega]; simp
theorem PLine.Good.pre {x : PLine} (h : x.Good) (k : Nat) : (⟨x.base, x.term, x.l.take k⟩ : PLine).Good := by
 have hk : (x.l.take k).length ≤ x.l.length := by rw [List.length_take]; omega
 have := h.n1;have := h.n2;exact ⟨h.b0, h.b1, h.t0, h.t1, by show (x.l.take k).length ≤ 4096; omega, by show x.base + ((x.l.take k).length : Int) ≤ 1099511627776; omega, fun it hi => h.its it (List.mem_of_mem_take hi)⟩
theorem pre_add {x : PLine} (h : x.Good) {j : Nat} {it : PItem} (hj : x.l[j]? = some it) : (⟨x.base, x.term, x.l.take j⟩ : PLine).add it = (⟨x.base, x.term, x.l.take (j + 1)⟩, x.base + (j : Int) + 1) := by
 obtain ⟨hlt, he⟩ := List.getElem?_eq_some_iff.1 hj;have := h.n1;have := h.n2;have hl : (x.l.take j).length = j := by simp; omega
 unfold PLine.add;rw [if_pos ⟨h.its it (List.mem_of_getElem? hj), by simp only [fitsB, hl, Bool.and_eq_true, decide_eq_true_eq]; omega⟩];have h2 : x.l.take (j + 1) = x.l.take j ++ [it] := by rw [List.take_add_one, hj]; rfl
 simp only [PLine.last, hl, h2]
structure PlL (q : Nat) (wF : World) (x : PLine) (j : Nat) (la : Option Addr) (lc : Nat) (ms : List MItem) (wr : World) : Prop where
 le : j ≤ x.l.length
 ln : LnAt wr q q ⟨x.base, x.term, x.l.take j⟩ la lc ms
 fr : ∀ g, (Value.slice la ms.length lc).ownBlock = some g → wF.heap.size ≤ g
 os : wr.os = wF.os
 tape : wr.tape = wF.tape
 output : wr.output = wF.output
 size : wF.heap.size ≤ wr.heap.size
 blk : ∀ k, k < wF.heap.size → k ≠ q → wr.heap[k]? = wF.heap[k]?
theorem PlL.below {q : Nat} {wF : World} {x : PLine} {j : Nat} {la : Option Addr} {lc : Nat} {ms : List MItem} {wr w' : World} (h : PlL q wF x j la lc ms wr) (hb : Below wr.heap.size wr w') : PlL q wF x j la lc ms w' :=
 ⟨h.le, h.ln.below hb, h.fr, hb.os.trans h.os, hb.tape.trans h.tape, hb.output.trans h.output, Nat.le_trans h.size hb.size, fun k hk hn => (hb.block k (by have := h.size; omega)).trans (h.blk k hk hn)⟩
theorem PlL.next {q : Nat} {wF : World} {x y : PLine} {j : Nat} {la : Option Addr} {lc : Nat} {ms : List MItem} {wr w' : World} (h : PlL q wF x j la lc ms wr) (hj : j + 1 ≤ x.l.length) (hy : y = ⟨x.base, x.term, x.l.take (j + 1)⟩)
  (ht : LineTo q q y (Value.slice la ms.length lc).ownBlock wr w') : ∃ la' lc' ms', PlL q wF x (j + 1) la' lc' ms' w' := by
 obtain ⟨la', lc', ms', hl, hT, hf⟩ := ht;subst hy;have hs := h.size;have hs2 := hT.size;refine ⟨la', lc', ms', hj, hl, fun g hg => ?_, hT.os.trans h.os, hT.tape.trans h.tape, hT.output.trans h.output, by omega, fun k hk hn => (hT.block k (by omega) hn (fun e => ?_)).trans (h.blk k hk hn)⟩
 ·rcases hf g hg with e | e
  ·exact h.fr g e
  ·omega
 ·have := h.fr k e.symm; omega
def PlTo (p : Nat) (M : RMem) (w : World) (o : Option PRaft) (e : Ending) (w' : World) : Prop := ∃ M', RTouch p M M' w w' ∧ match o with
 | none => e = .returned (.bool false)
 | some R' => e = .returned (.bool true) ∧ RfAt w' p R' M'
set_option maxRecDepth 100000 in
set_option maxHeartbeats 2000000 in
theorem raftPlace (p : Nat) (R : PRaft) (M : RMem) (at_ : Int) (ha0 : 0 ≤ at_) (ha1 : at_ ≤ 1099511627776) (t : Int) (a : Option Addr) (c : Nat) (b : List UInt8) (hg : R.line.Good) (w : World) (h : RfAt w p R M) (hb : BsAt w w.heap.size a b.length c b) :
  Calls Tryz.prog 98 #[.pointer (some ⟨p, 0, none⟩), .int .i64 at_, .agg #[.int .i64 t, .slice a b.length c]] w (PlTo p M w (R.place at_ (t, b))) := by
 have c4 : w.cell? ⟨p, 4, none⟩ = some (.pointer (some ⟨M.lb, 0, none⟩)) := h.c rfl;obtain ⟨W0, hW0⟩ : ∃ W0, W0 = w.alloc (.cells #[.int .i64 t, .slice a b.length c] 40) := ⟨_, rfl⟩
 have hb0 : Below w.heap.size w W0 := by rw [hW0]; exact (Below.refl _ _).alloc (Nat.le_refl _) _
 have hr0 : W0.heap[w.heap.size]? = some (.cells #[.int .i64 t, .slice a b.length c] 40 (0, 0)) := by rw [hW0]; exact heap_alloc_new w _
 have hs0 : W0.heap.size = w.heap.size + 1 := by rw [hW0]; simp
 have hpl := h.lt;have c4' : W0.cell? ⟨p, 4, none⟩ = some (.pointer (some ⟨M.lb, 0, none⟩)) := (hb0.cell (p := ⟨p, 4, none⟩) hpl).trans c4;have HW0 := Hh hW0;have HLN := Hh (h.ln.below hb0);have HR := Hh h;have HR0 := Hh (h.below hb0);have HB0 := Hh hb0;have HRB := Hh hr0;have HB1 := Hh hb;have HBB := Hh ((hb.below hb0 (Nat.le_refl _)).mono hb0.size);have HG := Hh hg;have hgb0 := hg.b0;have hgb1 := hg.b1;have hgt0 := hg.t0;have hgt1 := hg.t1;have hgn := hg.n2;have hgm := hg.n1;have hlast : R.line.last = R.line.base + (R.line.l.length : Int) := rfl;obtain ⟨X, hX⟩ : ∃ X, R.line = X := ⟨_, rfl⟩
 have HX := Hh hX;rw [hX] at hgb0 hgb1 hgt0 hgt1 hgn hgm hlast;have HLN := Hh (show LnAt W0 0 M.lb X M.la M.lc M.ms by rw [← hX]; exact HLN.out);have HG := Hh (show X.Good by rw [← hX]; exact HG.out);obtain ⟨B, hB⟩ : ∃ B, X.base = B := ⟨_, rfl⟩
 obtain ⟨T, hT⟩ : ∃ T, X.term = T := ⟨_, rfl⟩
 obtain ⟨L, hL⟩ : ∃ L, X.last = L := ⟨_, rfl⟩
 obtain ⟨O, hO⟩ : ∃ O, R.place at_ (t, b) = O := ⟨_, rfl⟩
 rw [hO];have HO := Hh (show O = if at_ ≤ B ∨ L + 1 < at_ then none
  else if ((X.upTo at_).add (t, b)).2 = at_ then some { R with line := ((X.upTo at_).add (t, b)).1 } else none by rw [← hO, PRaft.place, hX, hB, hL])
 have HBQ := Hh hB;have HTQ := Hh hT;have HLQ := Hh hL;rw [hB] at hgb0 hgb1 hgn hlast;rw [hT] at hgt0 hgt1;rw [hL] at hlast;have HLAST := Hh hlast;have wl : IntKind.i64.wrap (L + 1) = L + 1 := IntWalk.i64_in _ (by omega);have hL0 : 0 ≤ L := by omega
 have hL1 : L ≤ 1099511627776 := by omega
 clear hX hB hT hL hO hW0 hb0 hr0 hlast h hb hg;go_enter Tryz.func98, Tryz.ntmps98
 go_wp2_with fail;rw [← HW0.out];clear c4;refine (lineBase 0 M.lb X M.la M.lc M.ms _ HLN.out).mono ?_;rintro e w1 ⟨rfl, m1, rfl⟩;rw [HBQ.out, HTQ.out];go_wp2_with fail;refine (lineLast 0 M.lb X HG.out M.la M.lc M.ms _ (HLN.out.drewN m1)).mono ?_;rintro e w2 ⟨rfl, m2, rfl⟩;rw [HLQ.out];obtain ⟨tm, htm⟩ : ∃ tm, (tmIs X L).1 = tm := ⟨_, rfl⟩
 rw [htm];clear htm;obtain ⟨W2, hW2⟩ : ∃ W2, W2 = (W0.drewN m1).drewN m2 := ⟨_, rfl⟩
 rw [← hW2];have hbw : Below W0.heap.size W0 W2 := by rw [hW2]; exact (below_drewN _ _).trans ((below_drewN _ _).mono (by simp))
 have c4 : W2.cell? ⟨p, 4, none⟩ = some (.pointer (some ⟨M.lb, 0, none⟩)) := (hbw.cell (p := ⟨p, 4, none⟩) (by show p < _; omega)).trans c4';have HB2 := Hh (HB0.out.trans (hbw.mono HB0.out.size));have HLN2 := Hh (HLN.out.below hbw);have HRB2 := Hh ((hbw.block _ (by omega)).trans HRB.out);have HBB2 := Hh ((HBB.out.below hbw (Nat.le_refl _)).mono hbw.size);have hs2 := hbw.size;clear hbw hW2 c4';by_cases h1 : at_ ≤ B
 ·have t1 : decide (at_ ≤ B) = true := by simpa using h1
  have hON : O = none := by rw [HO.out, if_pos (.inl h1)]
  subst hON;clear h1;go_wp2;go_ret;exact ⟨M, .ofBelow HB2.out, rfl⟩
 by_cases h2 : L + 1 < at_
 ·have t1 : decide (at_ ≤ B) = false := by simpa using h1
  have t2 : decide (L + 1 < at_) = true := by simpa using h2
  have hON : O = none := by rw [HO.out, if_pos (.inr h2)]
  subst hON;clear h1 h2;go_wp2;go_ret;exact ⟨M, .ofBelow HB2.out, rfl⟩
 have t1 : decide (at_ ≤ B) = false := by simpa using h1
 have t2 : decide (L + 1 < at_) = false := by simpa using h2
 have HON := Hh (show O = if ((X.upTo at_).add (t, b)).2 = at_ then some { R with line := ((X.upTo at_).add (t, b)).1 } else none by rw [HO.out, if_neg (by omega)]);have HAT := Hh (show B < at_ ∧ at_ ≤ L + 1 by omega);have w3 : IntKind.i64.wrap (B + 1) = B + 1 := IntWalk.i64_in _ (by omega);have w4 : IntKind.i64.wrap (at_ - B) = at_ - B := IntWalk.i64_in _ (by omega);have w5 : IntKind.i64.wrap (at_ - B - 1) = at_ - B - 1 := IntWalk.i64_in _ (by omega);have hnew : isNew B T = true := by simp [isNew, inZ]; omega
 clear h1 h2;go_wp2_with fail;refine (lineNew_yes B T hnew _).mono ?_;rintro e w6 ⟨rfl, hln6, hb6, hs6⟩;have hq : w.heap.size < W2.heap.size := by omega
 have c4 : w6.cell? ⟨p, 4, none⟩ = some (.pointer (some ⟨M.lb, 0, none⟩)) := (hb6.cell (p := ⟨p, 4, none⟩) (by show p < _; omega)).trans (by assumption);have HLN6 := Hh (HLN2.out.below hb6);have HNW6 := Hh hln6;have HB6 := Hh hb6;clear hln6 hb6 hnew;go_wp2_with fail;refine (lineFromA 0 M.lb X HG.out M.la M.lc M.ms (B + 1) (at_ - B - 1) _ HLN6.out).mono ?_;rintro e wF ⟨ia, ic, os, rfl, hown, hmap, hbF⟩;have hn : at_ - B - 1 = ((at_ - B - 1).toNat : Int) := by have := HAT.out; omega
 obtain ⟨n, hnn⟩ : ∃ n : Nat, (at_ - B - 1).toNat = n := ⟨_, rfl⟩
 rw [hnn] at hn;have hnl : n ≤ X.l.length := by have := HAT.out; have := HLAST.out; omega
 rw [hn, show B + 1 = X.base + 1 by rw [HBQ.out], from_pre, Int.toNat_natCast] at hmap;have hol : os.length = n := by have h9 := congrArg List.length hmap; simpa [Nat.min_eq_left hnl] using h9
 have HOL := Hh hol;have HN := Hh hn;have hit : ∀ (j : Nat) (m : MItem), os[j]? = some m → X.l[j]? = some m.it := fun j m hj => by
  have hlt := (List.getElem?_eq_some_iff.1 hj).1;have h9 : (os.map MItem.it)[j]? = some m.it := by simp [hj]
  rw [hmap, List.getElem?_take_of_lt (by omega)] at h9;exact h9
 have HIT := Hh hit;have HOWN := Hh hown;have HBF := Hh hbF;have HP0 := Hh (show PlL W2.heap.size wF X 0 none 0 [] wF from ⟨by omega, by have h9 := HNW6.out.below hbF; rw [← HBQ.out, ← HTQ.out] at h9; exact h9, (fun g hg => by cases hg), rfl, rfl, rfl, Nat.le_refl _, fun _ _ _ => rfl⟩);have hol2 : os.length ≤ 4096 := by omega
 have hol3 : os.length ≤ X.l.length := by omega
 have hsF := hbF.size;clear hn hnn hmap hol hit hown hbF c4;go_wp2_with fail;obtain ⟨wo, rfl⟩ : ∃ wo : World, wo = wF := ⟨_, rfl⟩
 go_loopw [54] (fun iv wr => ∃ (j : Nat) (la : Option Addr) (lc : Nat) (ms : List MItem), iv = .int .i64 j ∧ j ≤ os.length ∧ PlL W2.heap.size wo X j la lc ms wr) (fun iv _ => os.length - (intOf iv).toNat)
 case atStart => exact ⟨0, none, 0, [], rfl, by omega, HP0.out⟩
 case round =>
  obtain ⟨j, la, lc, ms, rfl, hj, hpl9⟩ := hrel;have HL := Hh hpl9;have hszr := hpl9.size;clear hpl9;by_cases hlt : j < os.length
  ·have tj : decide ((j : Int) < (os.length : Int)) = true := by simpa using hlt
   have hk0 : (0 : Int) ≤ (j : Int) := by omega
   have hk1 : (j : Int) < (os.length : Int) := by omega
   obtain ⟨m, hm⟩ : ∃ m, os[j]? = some m := ⟨_, List.getElem?_eq_getElem hlt⟩
   have hmm := List.mem_of_getElem? hm;have HX9 := Hh (HIT.out j m hm);have howr : wr.ownsRow w6.heap.size 40 2 (.slice ia os.length ic) os.length (cellsM os) := own_mv9 HOWN.out.own fun g hg => HL.out.blk g (own_lt HOWN.out.own hg).2 (by have := (own_lt HOWN.out.own hg).1; omega)
   have hmb : OwnBs 5 wr m := (HOWN.out.bs m hmm).grown (T := 5) (fun k cs fr hk hc => HL.out.blk k hk (fun e => by
    have h8 := HNW6.out.row;rw [← HBF.out.block _ (by omega), ← e] at h8;obtain ⟨-, -, -, -, -, -, -, -, t9, -⟩ := types18;exact t9 (kind_eq hc h8).symm)) hszr
   obtain ⟨a9, c9, e9, hs9⟩ := SlAt.ofOwns howr;injection e9 with e10 _ e12
   subst e10; subst e12;obtain ⟨b9, o, rfl, hb9, hc⟩ := hs9.hat (by have := cellsM_len os; omega);have hcl := cellsM_len os;obtain ⟨e0, e1⟩ := cellsM_at os j m hm;have hmb1 := hmb.1;have hmn : m.n = m.b.length := hmb1.hlen.symm;rw [hmn] at e1;have k0 : wr.cell? ⟨b9, o + j * 2, none⟩ = some (.int .i64 m.t) := (hc _ (by omega)).trans e0;have k1 : wr.cell? ⟨b9, o + j * 2 + 1, none⟩ = some (.slice m.a m.b.length m.c) := by rw [Nat.add_assoc]; exact (hc _ (by omega)).trans e1
   obtain ⟨Wb, hWb⟩ : ∃ Wb, Wb = wr.alloc (.cells #[.int .i64 m.t, .slice m.a m.b.length m.c] 40) := ⟨_, rfl⟩
   have hbb : Below wr.heap.size wr Wb := by rw [hWb]; exact (Below.refl _ _).alloc (Nat.le_refl _) _
   have HMB := Hh (show BsAt Wb Wb.heap.size m.a m.b.length m.c m.b from by rw [← hmn]; exact (hmb1.below hbb (Nat.le_refl _)).mono hbb.size);have HLB := Hh (HL.out.below hbb);have HWB := Hh hWb;have hszb := hbb.size;clear hc e0 e1 hs9 hmn hmb hmb1 howr hWb hbb hm hmm;go_wp2_with fail;rw [← HWB.out];refine (lineAdd W2.heap.size W2.heap.size ⟨X.base, X.term, X.l.take j⟩ (HG.out.pre j) la lc ms m.t m.a m.c m.b _ HLB.out.ln HMB.out (by omega)).mono ?_;rintro e w9 ⟨rfl, hto⟩;rw [show ((m.t, m.b) : PItem) = m.it from rfl, pre_add HG.out HX9.out] at hto;obtain ⟨la2, lc2, ms2, hnx⟩ := HLB.out.next (by omega) rfl hto;have HNX := Hh hnx;obtain ⟨z, hz⟩ : ∃ z, (PLine.add ⟨X.base, X.term, X.l.take j⟩ (m.t, m.b)).2 = z := ⟨_, rfl⟩
   rw [hz];clear hnx hto hz k0 k1;go_wp2;go_roundw
   case rel => exact ⟨j + 1, la2, lc2, ms2, by go_num, by omega, HNX.out⟩
   case measure => simp [intOf]; omega
  ·have tj : decide ((j : Int) < (os.length : Int)) = false := by simp; omega
   obtain rfl : j = os.length := by omega
   have hrow : wr.heap[p]? = some (.cells (rcells R M).toArray 84 (0, 0)) :=
    (HL.out.blk p (by omega) (by omega)).trans ((HBF.out.block p (by omega)).trans ((HB6.out.block p (by omega)).trans ((HB2.out.block p (by omega)).trans HR.out.row)))
   have c4 : wr.cell? ⟨p, 4, none⟩ = some (.pointer (some ⟨M.lb, 0, none⟩)) := by rw [cell_of_row _ _ _ _ _ _ hrow]; rfl
   have f4 : wr.frozen? ⟨p, 4, none⟩ = false := frozen_of_row _ _ _ _ _ hrow;have hbelow : Below w.heap.size w wr := by
    have h6 := HB6.out;have h2 := HB2.out;have hF := HBF.out;refine ⟨HL.out.os.trans (hF.os.trans (h6.os.trans h2.os)), HL.out.tape.trans (hF.tape.trans (h6.tape.trans h2.tape)), HL.out.output.trans (hF.output.trans (h6.output.trans h2.output)), by omega, fun k hk => ?_⟩;exact (HL.out.blk k (by omega) (by omega)).trans ((hF.block k (by omega)).trans ((h6.block k (by omega)).trans (h2.block k hk)))
   have hx4 : wr.cell? ⟨w.heap.size, 0, none⟩ = some (.int .i64 t) ∧ wr.cell? ⟨w.heap.size, 1, none⟩ = some (.slice a b.length c) := by
    have h8 : wr.heap[w.heap.size]? = some (.cells #[.int .i64 t, .slice a b.length c] 40 (0, 0)) :=
     (HL.out.blk _ (by omega) (by omega)).trans ((HBF.out.block _ (by omega)).trans ((HB6.out.block _ (by omega)).trans HRB2.out))
    exact ⟨cell_of_row _ _ 0 _ _ _ h8, cell_of_row _ _ 1 _ _ _ h8⟩
   obtain ⟨x0, x1⟩ := hx4;have hup : (⟨X.base, X.term, X.l.take os.length⟩ : PLine) = X.upTo at_ := by
    unfold PLine.upTo;have hh := HN.out;have hh2 := HOL.out;rw [HBQ.out, show (at_ - B - 1).toNat = os.length by omega]
   have hln9 := HL.out.ln;rw [hup] at hln9;have HHD := Hh (HR.out.headed (R1 := R) (M1 := M) (Spoiled.ofBelow hbelow) hrow HR.out.sv rfl rfl rfl (HR.out.below hbelow).st hln9 (by omega));obtain ⟨V, hV⟩ : ∃ V, V = wr.setCell ⟨p, 4, none⟩ (.pointer (some ⟨W2.heap.size, 0, none⟩)) := ⟨_, rfl⟩
   have HHV := Hh (show RfAt V p { R with line := X.upTo at_ } { M with lb := W2.heap.size, la := la, lc := lc, ms := ms } ∧ RTouch p M { M with lb := W2.heap.size, la := la, lc := lc, ms := ms } w V by rw [hV]; exact HHD.out);have HV := Hh hV;have HBV := Hh (show BsAt V V.heap.size a b.length c b from by rw [hV]; exact (((HB1.out.below hbelow (Nat.le_refl _)).setFar c4 (by intro x e; cases e) _).mono (by simpa using hbelow.size)));clear hrow hbelow hup hln9 hV;go_wp2_with fail;rw [← HV.out];clear c4 f4 x0 x1;refine (lineAdd 0 W2.heap.size (X.upTo at_) (by unfold PLine.upTo; exact HG.out.pre _) la lc ms t a c b _ HHV.out.1.ln HBV.out (Nat.zero_le _)).mono ?_;rintro e w9 ⟨rfl, hto⟩;obtain ⟨la9, lc9, ms9, hr9, ht9⟩ := HHV.out.1.lined hto;have HR9 := Hh hr9;have HT9 := Hh (HHV.out.2.trans ht9);obtain ⟨r, hr⟩ : ∃ r, (X.upTo at_).add (t, b) = r := ⟨_, rfl⟩
   rw [hr];have HQ := Hh hr;clear hto hr9 ht9;obtain ⟨y, z⟩ := r;rw [hr] at HON;clear hr;go_wp2;go_ret;by_cases hz : z = at_
   ·have hO9 : O = some { R with line := y } := by rw [HON.out, if_pos hz]
    subst hO9;have h8 := HR9.out;rw [HQ.out] at h8;exact ⟨_, HT9.out, by rw [hz]; simp, h8⟩
   ·have hO9 : O = none := by rw [HON.out, if_neg hz]
    subst hO9;exact ⟨_, HT9.out, by simp [hz]⟩
end Go.Proofs.YtogcnfhmcpkdcaaGreat
namespace Go.Proofs.YtogcnfhmcpkdcaaGreat
open Go.RowKit
set_option linter.unusedVariables false
set_option linter.unusedSimpArgs false
inductive NoteV where
 | bal (t f : Nat)
 | itm (at_ t : Nat) (b : List UInt8)
def getNoteB (r : List UInt8) : Res NoteV := (getBal r).bind fun v r1 => .ok (.bal v.1 v.2) r1
def getNoteI (r : List UInt8) : Res NoteV := (getNum 1099511627776 r).bind fun at_ r1 => (getNum 1099511627776 r1).bind fun t r2 => (getText 8192 r2).bind fun b r3 => if at_ = 0 then .err 5 else .ok (.itm at_ t b) r3
def getNote (l : List UInt8) : Res NoteV := (getNum 2 l).bind fun k r => if k = 1 then getNoteB r else if k = 2 then getNoteI r else .err 25
theorem sane_err {α : Type} (x : Int) (h : x ≠ 0) : (Res.err x : Res α).sane := fun y e => by injection e with e; omega
theorem sane_note (l : List UInt8) : (getNote l).sane := Res.sane_bind (sane_num _ _) fun k r => by
 by_cases h1 : k = 1
 ·rw [if_pos h1]; exact Res.sane_bind (sane_bal _) fun _ _ => sane_ok _ _
 ·rw [if_neg h1];by_cases h2 : k = 2
  ·rw [if_pos h2];exact Res.sane_bind (sane_num _ _) fun a _ => Res.sane_bind (sane_num _ _) fun _ _ => Res.sane_bind (sane_text _ _) fun _ _ => by
    by_cases h3 : a = 0
    ·rw [if_pos h3]; exact sane_err 5 (by decide)
    ·rw [if_neg h3]; exact sane_ok _ _
  ·rw [if_neg h2]; exact sane_err 25 (by decide)
structure NtW (w : World) (q p rb ab ib : Nat) : Prop where
 hq : q < w.heap.size
 hp : p < w.heap.size
 hr : rb < w.heap.size
 ha : ab < w.heap.size
 hi : ib < w.heap.size
 qp : q ≠ p
 qr : q ≠ rb
 qa : q ≠ ab
 qi : q ≠ ib
 pr : p ≠ rb
 pa : p ≠ ab
 pi : p ≠ ib
 ra : rb ≠ ab
 ri : rb ≠ ib
 ai : ab ≠ ib
 c : w.cell? ⟨rb, 0, none⟩ = some (.pointer (some ⟨p, 0, none⟩))
structure Nt (w : World) (q p ab ib : Nat) (W : World) (r : List UInt8) (R : PRaft) (M : RMem) (A T : Int) (v : Value) : Prop where
 os : W.os = w.os
 tape : W.tape = w.tape
 output : W.output = w.output
 size : w.heap.size ≤ W.heap.size
 blk : ∀ k, k < w.heap.size → k ≠ q → k ≠ p → k ≠ ab → k ≠ ib → W.heap[k]? = w.heap[k]?
 eye : EyeAt W q r
 row : W.heap[p]? = some (.cells (rcells R M).toArray 84 (0, 0))
 xa : W.heap[ab]? = some (.cells #[.int .i64 A] 3 (0, 0))
 xi : W.heap[ib]? = some (.cells #[.int .i64 T, v] 40 (0, 0))
section
variable {w W W' : World} {q p rb ab ib : Nat} {r r' : List UInt8} {R R' : PRaft} {M M' : RMem} {v v' : Value} {A T : Int}
theorem Nt.but (h : Nt w q p ab ib W r R M A T v) (hw : NtW w q p rb ab ib) (hb : But q W W') (he : EyeAt W' q r') : Nt w q p ab ib W' r' R M A T v := by
 have hs := h.size;have := hw.hp;have := hw.ha;have := hw.hi;exact ⟨hb.os.trans h.os, hb.tape.trans h.tape, hb.output.trans h.output, Nat.le_trans hs hb.size, fun k h1 h2 h3 h4 h5 => (hb.block k (by omega) h2).trans (h.blk k h1 h2 h3 h4 h5), he, (hb.block _ (by omega) hw.qp.symm).trans h.row, (hb.block _ (by omega) hw.qa.symm).trans h.xa, (hb.block _ (by omega) hw.qi.symm).trans h.xi⟩
theorem Nt.below (h : Nt w q p ab ib W r R M A T v) (hw : NtW w q p rb ab ib) (hb : Below W.heap.size W W') : Nt w q p ab ib W' r R M A T v :=
 h.but hw (But.ofBelow (Nat.lt_of_lt_of_le hw.hq h.size) hb) (h.eye.below hb)
theorem Nt.box (h : Nt w q p ab ib W r R M A T v) (hw : NtW w q p rb ab ib) : W.cell? ⟨rb, 0, none⟩ = some (.pointer (some ⟨p, 0, none⟩)) :=
 (World.cell?_of_block (a := ⟨rb, 0, none⟩) (h.blk rb hw.hr hw.qr.symm hw.pr.symm hw.ra hw.ri)).trans hw.c
theorem Nt.c (h : Nt w q p ab ib W r R M A T v) {i : Nat} {u : Value} (hi : (rcells R M)[i]? = some u) : W.cell? ⟨p, i, none⟩ = some u := by
 rw [cell_of_row _ _ _ _ _ _ h.row, List.getElem?_toArray]; exact hi
theorem Nt.f (h : Nt w q p ab ib W r R M A T v) (i : Nat) : W.frozen? ⟨p, i, none⟩ = false := frozen_of_row _ _ _ _ _ h.row
theorem Nt.setp (h : Nt w q p ab ib W r R M A T v) (hw : NtW w q p rb ab ib) (i : Nat) (x u : Value) (hi : (rcells R M)[i]? = some u) (hu : ∀ c : Int, u ≠ .int .u8 c) (hc : (rcells R M).set i x = rcells R' M') : Nt w q p ab ib (W.setCell ⟨p, i, none⟩ x) r R' M' A T v := by
 have h9 := heap_setCell_same W p i _ _ x h.row;have ho : ∀ k, k ≠ p → (W.setCell ⟨p, i, none⟩ x).heap[k]? = W.heap[k]? := fun k hk => Below.heap_setCell _ _ _ k hk
 refine ⟨h.os, h.tape, h.output, by simpa using h.size, fun k h1 h2 h3 h4 h5 => (ho k h3).trans (h.blk k h1 h2 h3 h4 h5), EyeAt.setOther h.eye hw.qp.symm (h.c hi) hu x, ?_, (ho _ hw.pa.symm).trans h.xa, (ho _ hw.pi.symm).trans h.xi⟩;rw [h9, ← hc]
 simp
theorem Nt.seta (h : Nt w q p ab ib W r R M A T v) (hw : NtW w q p rb ab ib) (A' : Int) : Nt w q p ab ib (W.setCell ⟨ab, 0, none⟩ (.int .i64 A')) r R M A' T v := by
 have h9 := heap_setCell_same W ab 0 _ _ (.int .i64 A') h.xa;have ho : ∀ k, k ≠ ab → (W.setCell ⟨ab, 0, none⟩ (.int .i64 A')).heap[k]? = W.heap[k]? := fun k hk => Below.heap_setCell _ _ _ k hk
 refine ⟨h.os, h.tape, h.output, by simpa using h.size, fun k h1 h2 h3 h4 h5 => (ho k h4).trans (h.blk k h1 h2 h3 h4 h5), EyeAt.setOther h.eye hw.qa.symm (cell_of_row W ab 0 _ _ _ h.xa) (by intro c e; cases e) _, (ho _ hw.pa).trans h.row, ?_, (ho _ hw.ai.symm).trans h.xi⟩;rw [h9]; rfl
theorem Nt.sett (h : Nt w q p ab ib W r R M A T v) (hw : NtW w q p rb ab ib) (T' : Int) : Nt w q p ab ib (W.setCell ⟨ib, 0, none⟩ (.int .i64 T')) r R M A T' v := by
 have h9 := heap_setCell_same W ib 0 _ _ (.int .i64 T') h.xi;have ho : ∀ k, k ≠ ib → (W.setCell ⟨ib, 0, none⟩ (.int .i64 T')).heap[k]? = W.heap[k]? := fun k hk => Below.heap_setCell _ _ _ k hk
 refine ⟨h.os, h.tape, h.output, by simpa using h.size, fun k h1 h2 h3 h4 h5 => (ho k h5).trans (h.blk k h1 h2 h3 h4 h5), EyeAt.setOther h.eye hw.qi.symm (cell_of_row W ib 0 _ _ _ h.xi) (by intro c e; cases e) _, (ho _ hw.pi).trans h.row, (ho _ hw.ai).trans h.xa, ?_⟩;rw [h9]; rfl
theorem Nt.setv (h : Nt w q p ab ib W r R M A T v) (hw : NtW w q p rb ab ib) (hv : ∀ c : Int, v ≠ .int .u8 c) (x : Value) : Nt w q p ab ib (W.setCell ⟨ib, 1, none⟩ x) r R M A T x := by
 have h9 := heap_setCell_same W ib 1 _ _ x h.xi;have ho : ∀ k, k ≠ ib → (W.setCell ⟨ib, 1, none⟩ x).heap[k]? = W.heap[k]? := fun k hk => Below.heap_setCell _ _ _ k hk
 refine ⟨h.os, h.tape, h.output, by simpa using h.size, fun k h1 h2 h3 h4 h5 => (ho k h5).trans (h.blk k h1 h2 h3 h4 h5), EyeAt.setOther h.eye hw.qi.symm (cell_of_row W ib 1 _ _ _ h.xi) hv _, (ho _ hw.pi).trans h.row, (ho _ hw.ai).trans h.xa, ?_⟩;rw [h9]; rfl
theorem Nt.err (h : Nt w q p ab ib W r R M A T v) (hw : NtW w q p rb ab ib) (hb : But q W W') {x : Int} {α : Type} {is : α → Prop} : ReadsSet q (fun k => k = p ∨ k = ab ∨ k = ib) (.err x : Res α) w W' (broke x) is := by
 have hs := h.size;exact ⟨hb.os.trans h.os, hb.tape.trans h.tape, hb.output.trans h.output, Nat.le_trans hs hb.size, fun k h1 h2 h3 => (hb.block k (by omega) h2).trans (h.blk k h1 h2 (fun e => h3 (.inl e)) (fun e => h3 (.inr (.inl e))) (fun e => h3 (.inr (.inr e)))), fun _ h => by cases h; rfl, fun _ _ h => by cases h⟩
theorem Nt.cells (h : Nt w q p ab ib W r R M A T v) : W.cell? ⟨ab, 0, none⟩ = some (.int .i64 A) ∧ W.cell? ⟨ib, 0, none⟩ = some (.int .i64 T) ∧ W.cell? ⟨ib, 1, none⟩ = some v ∧ W.frozen? ⟨ab, 0, none⟩ = false ∧ W.frozen? ⟨ib, 0, none⟩ = false ∧ W.frozen? ⟨ib, 1, none⟩ = false :=
 ⟨cell_of_row W ab 0 _ _ _ h.xa, cell_of_row W ib 0 _ _ _ h.xi, cell_of_row W ib 1 _ _ _ h.xi, frozen_of_row _ _ _ _ _ h.xa, frozen_of_row _ _ _ _ _ h.xi, frozen_of_row _ _ _ _ _ h.xi⟩
end
def NoteIs (p ab ib : Nat) (R : PRaft) (M : RMem) (w w' : World) : NoteV → Prop
 | .bal t f => w'.heap[p]? = some (.cells (rcells { R with bt := t, bf := (f : Int) - 1 } M).toArray 84 (0, 0)) ∧ w'.heap[ab]? = some (.cells #[.int .i64 0] 3 (0, 0))
 | .itm at_ t b => 0 < at_ ∧ w'.heap[p]? = some (.cells (rcells R M).toArray 84 (0, 0)) ∧ w'.heap[ab]? = some (.cells #[.int .i64 at_] 3 (0, 0)) ∧ ∃ a c, w'.heap[ib]? = some (.cells #[.int .i64 t, .slice a b.length c] 40 (0, 0)) ∧ w'.ownsRow w.heap.size 5 1 (.slice a b.length c) b.length (b.map bv)
set_option maxRecDepth 100000 in
set_option maxHeartbeats 2000000 in
theorem raftReadNote1 (q p rb ab ib : Nat) (R : PRaft) (M : RMem) (l : List UInt8) (w : World) (hw : NtW w q p rb ab ib) (h : Nt w q p ab ib w l R M 0 0 (.slice none 0 0)) :
  Calls Tryz.prog 95 #[.pointer (some ⟨q, 0, none⟩), .pointer (some ⟨rb, 0, none⟩), .pointer (some ⟨ab, 0, none⟩), .pointer (some ⟨ib, 0, none⟩)] w fun e w' => ReadsSet q (fun k => k = p ∨ k = ab ∨ k = ib) (getNote l) w w' e (NoteIs p ab ib R M w w') := by
 obtain ⟨N, hN⟩ : ∃ N, N = getNote l := ⟨_, rfl⟩
 rw [← hN];have HN := Hh hN;have HW := Hh hw;have H0 := Hh h;clear hN hw h;go_enter Tryz.func95, Tryz.ntmps95
 go_wp2_with fail;refine (eyeNum q 2 l _ H0.out.eye).mono ?_;rintro e w1 ⟨hb1, hr1⟩;cases hg1 : getNum 2 l with
 | err x =>
  rw [hg1] at hr1;obtain rfl : e = broke x := hr1;have hN : N = .err x := by rw [HN.out, getNote, hg1]; rfl
  subst hN;have HB := Hh hb1;clear hg1 hb1;go_wp2;exact ⟨rfl, H0.out.err HW.out HB.out⟩
 | ok k r1 =>
  rw [hg1] at hr1;obtain ⟨rfl, he1⟩ := hr1;have hm1 := getNum_most hg1;have HN1 := Hh (show N = if k = 1 then getNoteB r1 else if k = 2 then getNoteI r1 else .err 25 by rw [HN.out, getNote, hg1]; rfl);have H1 := Hh (H0.out.but HW.out hb1 he1);have hs1 := hb1.size;clear hg1 hb1 he1;by_cases hk1 : k = 1
  ·have HN2 := Hh (show N = getNoteB r1 by rw [HN1.out, if_pos hk1]);have t1 : ((k : Int) == 1) = true := by rw [hk1]; rfl
   clear hk1;go_wp2_with fail;refine OpR (S := BoxS rb p) ?_;have hdr : Below w1.heap.size w1 w1.drew := (Below.refl _ _).drew;have H2 := Hh (H1.out.below HW.out hdr);have hS0 : BoxS rb p w1.drew := ⟨H2.out.box HW.out⟩
   refine hT 0 11 hS0 ?_;refine hT 1 12 hS0 ?_;clear hS0;refine Op1 2 ?_;go_simp;refine (raftReadBallot q r1 _ H2.out.eye).mono ?_;rintro e w3 ⟨hb3, hr3⟩;cases hg3 : getBal r1 with
   | err x =>
    rw [hg3] at hr3;obtain rfl : e = broke x := hr3;have hN : N = .err x := by rw [HN2.out, getNoteB, hg3]; rfl
    subst hN;have HB := Hh hb3;clear hg3 hb3 hdr;go_wp2;exact ⟨rfl, H2.out.err HW.out HB.out⟩
   | ok v r2 =>
    rw [hg3] at hr3;obtain ⟨rfl, he3⟩ := hr3;obtain ⟨t, f⟩ := v;have hN : N = .ok (.bal t f) r2 := by rw [HN2.out, getNoteB, hg3]; rfl
    subst hN;have H3 := Hh (H2.out.but HW.out hb3 he3);have hS2 : BoxS rb p w3 := ⟨H3.out.box HW.out⟩
    refine ⟨hS2, ?_⟩;clear hg3 hb3 he3 hdr;refine hT 3 14 hS2 ?_;refine hT 4 15 hS2 ?_;clear hS2;have c2 : w3.cell? ⟨p, 2, none⟩ = some (.int .i64 R.bt) := H3.out.c rfl;have c3 : w3.cell? ⟨p, 3, none⟩ = some (.int .i64 R.bf) := H3.out.c rfl;have f2 := H3.out.f 2;have f3 := H3.out.f 3;refine Op1 5 ?_;go_simp;obtain ⟨W3, hW3⟩ : ∃ W3, W3 = (w3.setCell ⟨p, 2, none⟩ (.int .i64 t)).setCell ⟨p, 3, none⟩ (.int .i64 ((f : Int) - 1)) := ⟨_, rfl⟩
    rw [← hW3];obtain ⟨R3, hR3⟩ : ∃ R3 : PRaft, R3 = { R with bt := t, bf := (f : Int) - 1 } := ⟨_, rfl⟩
    have H4 := Hh (show Nt w q p ab ib W3 r2 R3 M 0 0 (.slice none 0 0) by
     rw [hW3, hR3];have h3 := H3.out.setp (R' := { R with bt := t }) (M' := M) HW.out 2 (.int .i64 t) (iz R.bt) rfl (by intro c e; cases e) (rcells_setHead (by omega) rfl rfl rfl rfl rfl);exact h3.setp (R' := { R with bt := t, bf := (f : Int) - 1 }) (M' := M) HW.out 3 (.int .i64 ((f : Int) - 1)) (iz R.bf) rfl (by intro c e; cases e) (rcells_setHead (by omega) rfl rfl rfl rfl rfl))
    have hS3 : BoxS rb p W3 := ⟨H4.out.box HW.out⟩
    have HR3 := Hh hR3;refine ⟨hS3, OpE ?_⟩;clear hW3 hR3 c2 c3 f2 f3 hS3;go_wp2;go_end0;refine ⟨H4.out.os, H4.out.tape, H4.out.output, H4.out.size, fun k h1 h2 h3 => H4.out.blk k h1 h2 (fun e => h3 (.inl e)) (fun e => h3 (.inr (.inl e))) (fun e => h3 (.inr (.inr e))), (fun x h9 => by cases h9), (fun v' r' h9 => ?_)⟩;cases h9
    have h8 := H4.out.row;rw [HR3.out] at h8;exact ⟨rfl, H4.out.eye.len, h8, H4.out.xa⟩
  ·by_cases hk2 : k = 2
   ·have HN2 := Hh (show N = getNoteI r1 by rw [HN1.out, if_neg hk1, if_pos hk2]);have t1 : ((k : Int) == 1) = false := by rw [hk2]; rfl
    have t2 : ((k : Int) == 2) = true := by rw [hk2]; rfl
    clear hk1 hk2;go_wp2_with fail;refine (eyeNum q 1099511627776 r1 _ H1.out.eye).mono ?_;rintro e w2 ⟨hb2, hr2⟩;cases hg2 : getNum 1099511627776 r1 with
    | err x =>
     rw [hg2] at hr2;obtain rfl : e = broke x := hr2;have hN : N = .err x := by rw [HN2.out, getNoteI, hg2]; rfl
     subst hN;have HB := Hh hb2;clear hg2 hb2;go_wp2;exact ⟨rfl, H1.out.err HW.out HB.out⟩
    | ok A r2 =>
     rw [hg2] at hr2;obtain ⟨rfl, he2⟩ := hr2;have hmA := getNum_most hg2;have wA : IntKind.i64.wrap (A : Int) = A := IntWalk.i64_in _ (by omega);have HN3 := Hh (show N = (getNum 1099511627776 r2).bind fun t r2 => (getText 8192 r2).bind fun b r3 => if A = 0 then .err 5 else .ok (.itm A t b) r3 by rw [HN2.out, getNoteI, hg2]; rfl);have H2 := Hh (H1.out.but HW.out hb2 he2);have H3 := Hh (H2.out.seta HW.out A);obtain ⟨ca, -, -, fa, -, -⟩ := H2.out.cells;obtain ⟨W3, hW3⟩ : ∃ W3, W3 = w2.setCell ⟨ab, 0, none⟩ (.int .i64 A) := ⟨_, rfl⟩
     rw [← hW3] at H3;have HW3 := Hh hW3;have hs2 := hb2.size;have hs3 : w2.heap.size ≤ W3.heap.size := by rw [hW3]; simp
     clear hg2 hb2 he2 hW3;go_wp2_with fail;rw [← HW3.out];clear ca fa;refine (eyeNum q 1099511627776 r2 _ H3.out.eye).mono ?_;rintro e w4 ⟨hb4, hr4⟩;cases hg4 : getNum 1099511627776 r2 with
     | err x =>
      rw [hg4] at hr4;obtain rfl : e = broke x := hr4;have hN : N = .err x := by rw [HN3.out, hg4]; rfl
      subst hN;have HB := Hh hb4;clear hg4 hb4;go_wp2;exact ⟨rfl, H3.out.err HW.out HB.out⟩
     | ok T r4 =>
      rw [hg4] at hr4;obtain ⟨rfl, he4⟩ := hr4;have hmT := getNum_most hg4;have wT : IntKind.i64.wrap (T : Int) = T := IntWalk.i64_in _ (by omega);have HN4 := Hh (show N = (getText 8192 r4).bind fun b r3 => if A = 0 then .err 5 else .ok (.itm A T b) r3 by rw [HN3.out, hg4]; rfl);have H4 := Hh (H3.out.but HW.out hb4 he4);have H5 := Hh (H4.out.sett HW.out T);obtain ⟨-, ci, -, -, fi, -⟩ := H4.out.cells;obtain ⟨W5, hW5⟩ : ∃ W5, W5 = w4.setCell ⟨ib, 0, none⟩ (.int .i64 T) := ⟨_, rfl⟩
      rw [← hW5] at H5;have HW5 := Hh hW5;have hs4 := hb4.size;have hs5 : w4.heap.size ≤ W5.heap.size := by rw [hW5]; simp
      clear hg4 hb4 he4 hW5;go_wp2_with fail;rw [← HW5.out];clear ci fi;refine (eyeText q 8192 r4 _ H5.out.eye (by omega)).mono ?_;rintro e w6 ⟨hb6, hr6⟩;cases hg6 : getText 8192 r4 with
      | err x =>
       rw [hg6] at hr6;obtain rfl : e = broke x := hr6;have hN : N = .err x := by rw [HN4.out, hg6]; rfl
       subst hN;have HB := Hh hb6;clear hg6 hb6;go_wp2;exact ⟨rfl, H5.out.err HW.out HB.out⟩
      | ok b r6 =>
       rw [hg6] at hr6;obtain ⟨⟨ba, bc, rfl, -, ho6⟩, he6⟩ := hr6;have HN6 := Hh (show N = if A = 0 then .err 5 else .ok (.itm A T b) r6 by rw [HN4.out, hg6]; rfl);have H6 := Hh (H5.out.but HW.out hb6 he6);have H7 := Hh (H6.out.setv HW.out (by intro c e; cases e) (.slice ba b.length bc));have hib := HW.out.hi;obtain ⟨-, -, cv, -, -, fv⟩ := H6.out.cells;obtain ⟨W7, hW7⟩ : ∃ W7, W7 = w6.setCell ⟨ib, 1, none⟩ (.slice ba b.length bc) := ⟨_, rfl⟩
       rw [← hW7] at H7;have HO7 := Hh (show W7.ownsRow w.heap.size 5 1 (.slice ba b.length bc) b.length (b.map bv) by
        have h8 := World.ownsRow.mono ho6 (show w.heap.size ≤ W5.heap.size by omega);rw [hW7];exact own_mv9 h8 fun g hg => Below.heap_setCell _ _ _ g (by have := (own_lt h8 hg).1; show g ≠ ib; omega))
       have HW7 := Hh hW7;have ca7 := H7.out.cells.1;clear hg6 hb6 he6 ho6;by_cases hA : A = 0
       ·have hN : N = .err 5 := by rw [HN6.out, if_pos hA]
        subst hN;subst hA;have ca6 := H6.out.cells.1;go_wp2_with fail;rw [← HW7.out];clear hW7;refine (eyeFail_no _ 5 (by decide) _).mono ?_;rintro e w2 ⟨rfl, rfl⟩;go_wp2;exact ⟨rfl, H7.out.err HW.out (But.refl _ _)⟩
       ·have hN : N = .ok (.itm A T b) r6 := by rw [HN6.out, if_neg hA]
        subst hN;have ca6 := H6.out.cells.1;have t5 : ((A : Int) == 0) = false := by simp; omega
        go_wp2;rw [← HW7.out];go_end0;refine ⟨H7.out.os, H7.out.tape, H7.out.output, H7.out.size, fun k h1 h2 h3 => H7.out.blk k h1 h2 (fun e => h3 (.inl e)) (fun e => h3 (.inr (.inl e))) (fun e => h3 (.inr (.inr e))), (fun x h9 => by cases h9), (fun v' r' h9 => ?_)⟩;cases h9
        exact ⟨rfl, H7.out.eye.len, by omega, H7.out.row, H7.out.xa, ba, bc, H7.out.xi, HO7.out⟩
   ·have hN : N = .err 25 := by rw [HN1.out, if_neg hk1, if_neg hk2]
    subst hN;have t1 : ((k : Int) == 1) = false := by simp; omega
    have t2 : ((k : Int) == 2) = false := by simp; omega
    clear hk1 hk2;go_wp2_with fail;refine (eyeFail_no _ 25 (by decide) _).mono ?_;rintro e w2 ⟨rfl, rfl⟩;go_wp2;exact ⟨rfl, H1.out.err HW.out (But.refl _ _)⟩
end Go.Proofs.YtogcnfhmcpkdcaaGreat
namespace Go.Proofs.YtogcnfhmcpkdcaaGreat
open Go.RowKit
set_option linter.unusedVariables false
set_option linter.unusedSimpArgs false
def noteOut (R : PRaft) : Res NoteV → Option PRaft
 | .ok (.bal t f) rest => if rest = [] then some { R with bt := t, bf := (f : Int) - 1 } else none
 | .ok (.itm at_ t b) rest => if rest = [] then R.place at_ (t, b) else none
 | .err _ => none
def PRaft.readNote (R : PRaft) (l : List UInt8) : Option PRaft := noteOut R (getNote l)
theorem noteOut_rest (R : PRaft) (v : NoteV) {rest : List UInt8} (h : rest ≠ []) : noteOut R (.ok v rest) = none := by
 cases v <;> simp only [noteOut, if_neg h]
theorem getNoteI_most {l r : List UInt8} {v : NoteV} (h : getNoteI l = .ok v r) : ∃ A T b, v = .itm A T b ∧ A ≤ 1099511627776 ∧ T ≤ 1099511627776 ∧ b.length ≤ 8192 := by
 unfold getNoteI at h;cases h1 : getNum 1099511627776 l with
 | err x => rw [h1] at h; cases h
 | ok A r1 =>
  rw [h1, Res.bind_ok] at h;cases h2 : getNum 1099511627776 r1 with
  | err x => rw [h2] at h; cases h
  | ok T r2 =>
   rw [h2, Res.bind_ok] at h;cases h3 : getText 8192 r2 with
   | err x => rw [h3] at h; cases h
   | ok b r3 =>
    rw [h3, Res.bind_ok] at h;by_cases h4 : A = 0
    ·rw [if_pos h4] at h; cases h
    ·rw [if_neg h4] at h;cases h
     exact ⟨A, T, b, rfl, getNum_most h1, getNum_most h2, (text_put h3).2⟩
theorem getNote_most {l r : List UInt8} {v : NoteV} (h : getNote l = .ok v r) : (∃ t f, v = .bal t f ∧ t ≤ 1099511627776 ∧ f ≤ 7) ∨ ∃ A T b, v = .itm A T b ∧ A ≤ 1099511627776 ∧ T ≤ 1099511627776 ∧ b.length ≤ 8192 := by
 unfold getNote at h;cases h1 : getNum 2 l with
 | err x => rw [h1] at h; cases h
 | ok k r1 =>
  rw [h1, Res.bind_ok] at h;by_cases hk : k = 1
  ·rw [if_pos hk] at h;unfold getNoteB at h;cases h2 : getBal r1 with
   | err x => rw [h2] at h; cases h
   | ok v2 r2 =>
    rw [h2, Res.bind_ok] at h;cases h
    exact .inl ⟨v2.1, v2.2, rfl, (getBal_most h2).1, (getBal_most h2).2⟩
  ·rw [if_neg hk] at h;by_cases hk2 : k = 2
   ·rw [if_pos hk2] at h;exact .inr (getNoteI_most h)
   ·rw [if_neg hk2] at h; cases h
theorem RfAt.balled {w w3 : World} {p : Nat} {R R' : PRaft} {M : RMem} (h : RfAt w p R M) (hsp : Spoiled p w w3) (hrow : w3.heap[p]? = some (.cells (rcells R' M).toArray 84 (0, 0)))
  (hs : Sev R') (hl : R'.line = R.line) (hst : R'.state = R.state) (hn : R'.news = R.news) (ho : R'.out = R.out) : RfAt w3 p R' M := by
 have hp := h.lt;have hsz := hsp.size;obtain ⟨a1, a2, a3, a4, a5, a6, a7, a8⟩ := h.apart;have hlt : ∀ {g cs}, w.heap[g]? = some cs → g < w.heap.size := fun h9 => (Array.getElem?_eq_some_iff.1 h9).1
 have hT := hsp.touch M;refine ⟨hs, hrow, by rw [hl]; exact h.lnKeep hT (hsp.block _ (hlt h.ln.row) a1) (fun k hk => by
   obtain ⟨cur, hc⟩ := own_kind h.ln.own hk;exact hsp.block k (hlt hc) (fun e => a2 (by rw [← e]; exact hk))), by rw [hst]; exact h.keeps hT h.st, own_mv9 h.nw fun g hg => ?_, fun m hm => h.keeps hT (h.nb m hm), by rw [hn]; exact h.nq, own_mv9 h.ou fun g hg => ?_, by rw [ho]; exact h.oq, by rw [ho]; exact h.postKeep hT rfl rfl⟩
 ·rw [ownBlock_eq] at hg;obtain ⟨cur, hc⟩ := own_kind h.nw hg;exact hsp.block g (hlt hc) (fun e => a3 (by rw [← e]; exact hg))
 ·rw [ownBlock_eq] at hg;obtain ⟨cur, hc⟩ := own_kind h.ou hg;exact hsp.block g (hlt hc) (fun e => a4 (by rw [← e]; exact hg))
set_option maxRecDepth 100000 in
set_option maxHeartbeats 2000000 in
theorem raftReadNote (p : Nat) (R : PRaft) (M : RMem) (l : List UInt8) (a : Option Addr) (c : Nat) (hg : R.line.Good) (w : World) (hl : BsAt w w.heap.size a l.length c l) (h : RfAt w p R M) :
  Calls Tryz.prog 57 #[.pointer (some ⟨p, 0, none⟩), .slice a l.length c] w (PlTo p M w (R.readNote l)) := by
 obtain ⟨N, hN⟩ : ∃ N, N = getNote l := ⟨_, rfl⟩
 have hsane := sane_note l;rw [← hN] at hsane;obtain ⟨O, hO⟩ : ∃ O, O = R.readNote l := ⟨_, rfl⟩
 have HOO := Hh (show O = noteOut R N by rw [hO, hN]; rfl);rw [← hO];have HN := Hh hN;obtain ⟨W1, hW1⟩ : ∃ W1, W1 = ((w.alloc (.cells #[.pointer (some ⟨p, 0, none⟩)] 25)).alloc (.cells #[.int .i64 0] 3)).alloc (.cells #[.int .i64 0, .slice none 0 0] 40) := ⟨_, rfl⟩
 obtain ⟨Wa, hWa⟩ : ∃ Wa, Wa = w.alloc (.cells #[.pointer (some ⟨p, 0, none⟩)] 25) := ⟨_, rfl⟩
 obtain ⟨Wb, hWb⟩ : ∃ Wb, Wb = Wa.alloc (.cells #[.int .i64 0] 3) := ⟨_, rfl⟩
 have hW1' : W1 = Wb.alloc (.cells #[.int .i64 0, .slice none 0 0] 40) := by rw [hW1, hWb, hWa]
 have za : Wa.heap.size = w.heap.size + 1 := by rw [hWa]; simp
 have zb : Wb.heap.size = w.heap.size + 2 := by rw [hWb]; simp [za]
 have hs1 : W1.heap.size = w.heap.size + 3 := by rw [hW1']; simp [zb]
 have ba : Below w.heap.size w Wa := by rw [hWa]; exact (Below.refl _ _).alloc (Nat.le_refl _) _
 have bb : Below Wa.heap.size Wa Wb := by rw [hWb]; exact (Below.refl _ _).alloc (Nat.le_refl _) _
 have bc : Below Wb.heap.size Wb W1 := by rw [hW1']; exact (Below.refl _ _).alloc (Nat.le_refl _) _
 have hbW : Below w.heap.size w W1 := ba.trans ((bb.mono (by omega)).trans (bc.mono (by omega)));have hr1 : W1.heap[w.heap.size]? = some (.cells #[.pointer (some ⟨p, 0, none⟩)] 25 (0, 0)) :=
  (bc.block _ (by omega)).trans ((bb.block _ (by omega)).trans (by rw [hWa]; exact heap_alloc_new w _))
 have hb1 : W1.heap[w.heap.size + 1]? = some (.cells #[.int .i64 0] 3 (0, 0)) :=
  (bc.block _ (by omega)).trans (by rw [← za, hWb]; exact heap_alloc_new Wa _)
 have hi1 : W1.heap[w.heap.size + 2]? = some (.cells #[.int .i64 0, .slice none 0 0] 40 (0, 0)) := by
  rw [← zb, hW1']; exact heap_alloc_new Wb _
 have hpl := h.lt;have HG := Hh hg;have HH := Hh h;have HR1 := Hh (h.below hbW);have HBW := Hh hbW;have HRB := Hh hr1;have HBB := Hh hb1;have HIB := Hh hi1;have HL := Hh ((hl.below hbW (Nat.le_refl _)).mono hbW.size);have HW1 := Hh hW1;have HSN := Hh hsane;clear hN hsane hO hW1 hW1' hWa hWb za zb ba bb bc hbW hr1 hb1 hi1 h hl hg;go_enter Tryz.func57, Tryz.ntmps57
 go_wp2_with fail;rw [← HW1.out];refine (fieldReadSet N HSN.out l a l.length c 95 (enterOf Tryz.func95 (by kernel_rfl) rfl) #[] #[.pointer (some ⟨w.heap.size, 0, none⟩), .pointer (some ⟨w.heap.size + 1, 0, none⟩), .pointer (some ⟨w.heap.size + 2, 0, none⟩)] (fun k => k = p ∨ k = w.heap.size + 1 ∨ k = w.heap.size + 2) W1 (fun k hk => by omega) HL.out
  (fun w1 w' v => NoteIs p (w.heap.size + 1) (w.heap.size + 2) R M w1 w' v) ?_).mono ?_
 ·intro q w1 hb hq he;have hs := hb.size;show Calls _ 95 #[.pointer (some ⟨q, 0, none⟩), .pointer (some ⟨w.heap.size, 0, none⟩), .pointer (some ⟨w.heap.size + 1, 0, none⟩), .pointer (some ⟨w.heap.size + 2, 0, none⟩)] w1 _;rw [HN.out];exact raftReadNote1 q p w.heap.size (w.heap.size + 1) (w.heap.size + 2) R M l w1 ⟨he.1, by omega, by omega, by omega, by omega, by omega, by omega, by omega, by omega, by omega, by omega, by omega, by omega, by omega, by omega, cell_of_row w1 w.heap.size 0 _ _ _ ((hb.block _ (by omega)).trans HRB.out)⟩
   ⟨rfl, rfl, rfl, Nat.le_refl _, fun _ _ _ _ _ _ => rfl, he, (hb.block _ (by omega)).trans HR1.out.row, (hb.block _ (by omega)).trans HBB.out, (hb.block _ (by omega)).trans HIB.out⟩
 ·rintro e w2 ⟨rfl, ⟨ho, ht, hu, hz, hbk⟩, hok⟩;have HSP := Hh (show Spoiled p w w2 from ⟨ho.trans HBW.out.os, ht.trans HBW.out.tape, hu.trans HBW.out.output, by omega, fun k hk hne => (hbk k (by omega) (fun h9 => by omega)).trans (HBW.out.block k hk)⟩);have HOK := Hh hok;have HRB2 := Hh ((hbk w.heap.size (by omega) (fun h9 => by omega)).trans HRB.out);clear ho ht hu hbk hok;by_cases hcode : ∃ v, N = .ok v []
  ·obtain ⟨v, hv⟩ := hcode;obtain ⟨w1, w', rb, k1, k2, k3, k4, k6, k5⟩ := HOK.out v hv;have hk4 := k4.size;have hk5 := k5.size;have hmost := getNote_most (l := l) (r := []) (v := v) (by rw [← HN.out]; exact hv);have t1 : (N.code != 0) = false := by rw [hv]; rfl
   have t0 : (N.code == 0) = true := by rw [hv]; rfl
   rcases hmost with ⟨t, f, rfl, ht1, hf1⟩ | ⟨A, T, b, rfl, hA1, hT1, hb1⟩
   ·obtain ⟨r1, r2⟩ := k6;have HROW := Hh ((k5.block p (by omega) (by omega)).trans r1);have HBX := (k5.block (w.heap.size + 1) (by omega) (by omega)).trans r2;have ca := cell_of_row w2 (w.heap.size + 1) 0 _ _ _ HBX;have hOV : O = some { R with bt := t, bf := (f : Int) - 1 } := by rw [HOO.out, hv]; rfl
    subst hOV;clear hv k4 k5 r1 r2 HBX;go_wp2;go_ret;exact ⟨M, HSP.out.touch M, rfl, HH.out.balled HSP.out HROW.out (HH.out.sv.cp rfl rfl rfl) rfl rfl rfl rfl⟩
   ·obtain ⟨r0, r1, r2, ia, ic, r3, r4⟩ := k6;have HROW := Hh ((k5.block p (by omega) (by omega)).trans r1);have HBX := (k5.block (w.heap.size + 1) (by omega) (by omega)).trans r2;have HIX := (k5.block (w.heap.size + 2) (by omega) (by omega)).trans r3;have ca := cell_of_row w2 (w.heap.size + 1) 0 _ _ _ HBX;have c0 := cell_of_row w2 (w.heap.size + 2) 0 _ _ _ HIX;have c1 := cell_of_row w2 (w.heap.size + 2) 1 _ _ _ HIX;have cr : w2.cell? ⟨w.heap.size, 0, none⟩ = some (.pointer (some ⟨p, 0, none⟩)) := cell_of_row w2 _ 0 _ _ _ HRB2.out;have hob : w2.ownsRow w1.heap.size 5 1 (.slice ia b.length ic) b.length (b.map bv) := own_mv9 r4 fun g hg => k5.block g (own_lt r4 hg).2 (by have := (own_lt r4 hg).1; omega)
    have HBS := Hh (show BsAt w2 w2.heap.size ia b.length ic b from (OwnBs.of_own (t := 0) (n := b.length) hob (by omega)).1);have HRF := Hh (HH.out.balled HSP.out HROW.out HH.out.sv rfl rfl rfl rfl);have HOV := Hh (show O = R.place A (T, b) by rw [HOO.out, hv]; rfl);have tA : ((A : Int) == 0) = false := by simp; omega
    clear hv k4 k5 r1 r2 r3 r4 HBX HIX hob;go_wp2_with fail;refine (raftPlace p R M A (by omega) (by omega) T ia ic b HG.out _ HRF.out HBS.out).mono ?_;rintro e w3 ⟨M', hT3, hm3⟩;have HT3 := Hh ((HSP.out.touch M).trans hT3);rw [← HOV.out] at hm3;clear hT3 ca c0 c1 cr;cases O with
    | none =>
     obtain rfl : e = .returned (.bool false) := hm3;go_wp2;go_ret;exact ⟨M', HT3.out, rfl⟩
    | some R' =>
     obtain ⟨rfl, hr9⟩ := hm3;have HR9 := Hh hr9;clear hr9;go_wp2;go_ret;exact ⟨M', HT3.out, rfl, HR9.out⟩
  ·have hne : N.code ≠ 0 := by
    cases hR : N with
    | err x => exact HSN.out x hR
    | ok v rest =>
     simp only [Res.code];split
     ·rename_i h9; exact absurd ⟨v, by rw [hR, h9]⟩ hcode
     ·decide
   have t1 : (N.code != 0) = true := by simpa using hne
   have t0 : (N.code == 0) = false := by simpa using hne
   have hON : O = none := by
    rw [HOO.out];cases hR : N with
    | err x => rfl
    | ok v rest => exact noteOut_rest R v (fun h9 => hcode ⟨v, by rw [hR, h9]⟩)
   subst hON;clear hcode hne;go_wp2;go_ret;exact ⟨M, HSP.out.touch M, rfl⟩
end Go.Proofs.YtogcnfhmcpkdcaaGreat
namespace Go.Proofs.YtogcnfhmcpkdcaaGreat
open Go.RowKit
set_option linter.unusedVariables false
set_option linter.unusedSimpArgs false
def PRaft.loads : PRaft → List (List UInt8) → Option PRaft
 | R, [] => some R
 | R, b :: l => (R.readNote b).bind fun R' => R'.loads l
def PRaft.base (R : PRaft) : PRaft := { R with commit := R.line.base, applied := R.line.base }
def loadH (R : PRaft) (hd : List UInt8) : Option PRaft := if hd = [] then some R else R.readHead hd
def loadP (me n : Int) (hd : List UInt8) (l : List (List UInt8)) : Option PRaft := (loadH (PRaft.new me n) hd).bind fun R => (R.loads l).map PRaft.base
theorem readHead_good {R R' : PRaft} {l : List UInt8} (h : R.readHead l = some R') : R'.line.Good := by
 unfold PRaft.readHead at h;cases hr : getHead l with
 | err x => rw [hr] at h; cases h
 | ok v rest =>
  rw [hr] at h;simp only [headOut] at h;by_cases h1 : rest = []
  ·rw [if_pos h1] at h;obtain ⟨L, hL⟩ : ∃ L, L = outL (getLine v.2.1) := ⟨_, rfl⟩
   rw [← hL] at h;obtain ⟨E, o⟩ := L;cases o with
   | none => cases h
   | some x =>
    simp only [Option.map_some] at h;injection h with h
    subst h;exact (outL_some hL.symm).2.1
  ·rw [if_neg h1] at h; cases h
theorem place_good {R R' : PRaft} {at_ : Int} {it : PItem} (hg : R.line.Good) (h : R.place at_ it = some R') : R'.line.Good := by
 unfold PRaft.place at h;split at h
 ·cases h
 ·split at h
  ·injection h with h
   subst h;exact PLine.Good.add (hg.pre _) it
  ·cases h
theorem readNote_good {R R' : PRaft} {l : List UInt8} (hg : R.line.Good) (h : R.readNote l = some R') : R'.line.Good := by
 unfold PRaft.readNote at h;cases hr : getNote l with
 | err x => rw [hr] at h; cases h
 | ok v rest =>
  rw [hr] at h;cases v with
  | bal t f =>
   simp only [noteOut] at h;split at h
   ·injection h with h; subst h; exact hg
   ·cases h
  | itm A T b =>
   simp only [noteOut] at h;split at h
   ·exact place_good hg h
   ·cases h
structure LdL (w : World) (p : Nat) (L : List (List UInt8)) (O : Option PRaft) (j : Nat) (S : PRaft) (N : RMem) (wr : World) : Prop where
 rf : RfAt wr p S N
 bel : Below w.heap.size w wr
 own : ∀ k, N.own p k → w.heap.size ≤ k
 good : S.line.Good
 q : O = (S.loads (L.drop j)).map PRaft.base
def LdTo (O : Option PRaft) (w : World) (e : Ending) (w' : World) : Prop := Below w.heap.size w w' ∧ match O with
 | none => e = .returned (.tuple #[.pointer none, .bool false])
 | some R => ∃ p M, e = .returned (.tuple #[.pointer (some ⟨p, 0, none⟩), .bool true]) ∧ RfAt w' p R M ∧ ∀ k, M.own p k → w.heap.size ≤ k
set_option maxRecDepth 100000 in
set_option maxHeartbeats 2000000 in
theorem raftLoad (me n : Int) (h1 : 1 ≤ n) (h7 : n ≤ 7) (hm : 0 ≤ me) (hn : me < n) (hd : List UInt8) (a : Option Addr) (c : Nat) (ns : List MNote) (na : Option Addr) (nc : Nat) (hnl : ns.length ≤ 1000000000) (w : World)
  (hh : BsAt w w.heap.size a hd.length c hd) (hs : SlAt w w.heap.size 1 na ns.length nc (ns.map MNote.cell)) (hb : ∀ m ∈ ns, BsAt w w.heap.size m.a m.b.length m.c m.b) :
  Calls Tryz.prog 18 #[.int .i64 me, .int .i64 n, .slice a hd.length c, .slice na ns.length nc] w (LdTo (loadP me n hd (ns.map MNote.b)) w) := by
 obtain ⟨O, hO⟩ : ∃ O, loadP me n hd (ns.map MNote.b) = O := ⟨_, rfl⟩
 rw [hO];have HO := Hh hO;have HH := Hh hh;have HS := Hh hs;have HB := Hh hb;have hdl := hh.hbig;clear hO hh hs hb;go_enter Tryz.func18, Tryz.ntmps18
 go_wp2_with fail;refine (raftNew_yes me n h1 h7 hm hn _).mono ?_;rintro e w1 ⟨p, rfl, M, hmade⟩;have HM := Hh hmade;have hsz1 := hmade.2.1.size;clear hmade;by_cases hhd : hd.length = 0
 ·have HLH := Hh (show loadH (PRaft.new me n) hd = some (PRaft.new me n) by unfold loadH; rw [if_pos (List.eq_nil_of_length_eq_zero hhd)]);have HL0 := Hh (show LdL w p (ns.map MNote.b) O 0 (PRaft.new me n) M w1 from ⟨HM.out.1, HM.out.2.1, HM.out.2.2, new_good (b := 0) (t := 0) (by rfl), by rw [← HO.out, loadP, HLH.out]; rfl⟩);have t1 : decide ((0 : Int) < (hd.length : Int)) = false := decide_eq_false (by omega);go_wp2_with fail;clear t1;go_loopw [31] (fun iv wr => ∃ (j : Nat) (S : PRaft) (N : RMem), iv = .int .i64 j ∧ j ≤ ns.length ∧ LdL w p (ns.map MNote.b) O j S N wr) (fun iv _ => ns.length - (intOf iv).toNat)
  case atStart => exact ⟨0, _, _, rfl, by omega, HL0.out⟩
  case round =>
   obtain ⟨j, S, N, rfl, hj, hl9⟩ := hrel;have HL := Hh hl9;have hszr := hl9.bel.size;clear hl9;by_cases hlt : j < ns.length
   ·have tj : decide ((j : Int) < (ns.length : Int)) = true := by simpa using hlt
    have hk0 : (0 : Int) ≤ (j : Int) := by omega
    have hk1 : (j : Int) < (ns.length : Int) := by omega
    obtain ⟨m, hm9⟩ : ∃ m, ns[j]? = some m := ⟨_, List.getElem?_eq_getElem hlt⟩
    have hmm := List.mem_of_getElem? hm9;obtain ⟨b9, o, rfl, hb9, hc⟩ := HS.out.hat (by simp; omega);have e1 : (ns.map MNote.cell)[j]? = some (.slice m.a m.b.length m.c) := by simp [hm9, MNote.cell]
    have k1 : wr.cell? ⟨b9, o + j, none⟩ = some (.slice m.a m.b.length m.c) := (HL.out.bel.cell (p := ⟨b9, o + j, none⟩) hb9).trans ((hc _ (by simpa using hlt)).trans e1);have HBM := Hh (show BsAt wr wr.heap.size m.a m.b.length m.c m.b from ((HB.out m hmm).below HL.out.bel (Nat.le_refl _)).mono hszr);have hdrop : (ns.map MNote.b).drop j = m.b :: (ns.map MNote.b).drop (j + 1) := by
     have h9 : (ns.map MNote.b)[j]? = some m.b := by simp [hm9]
     obtain ⟨hl8, he8⟩ := List.getElem?_eq_some_iff.1 h9;rw [List.drop_eq_getElem_cons hl8, he8]
    have HQ := Hh (show O = (((S.readNote m.b).bind fun R' => R'.loads ((ns.map MNote.b).drop (j + 1)))).map PRaft.base by rw [HL.out.q, hdrop]; rfl);clear hc e1 hm9 hmm hdrop;go_wp2_with fail;refine (raftReadNote p S N m.b m.a m.c HL.out.good _ HBM.out HL.out.rf).mono ?_;rintro e w9 ⟨N', hT9, hm8⟩;have HBW := Hh (HL.out.bel.trans (hT9.below HL.out.own hszr));have HOW := Hh (hT9.inn HL.out.own hszr);obtain ⟨P, hP⟩ : ∃ P, S.readNote m.b = P := ⟨_, rfl⟩
    rw [hP] at hm8;have HPP := Hh hP;clear hT9 hP k1;cases P with
    | none =>
     obtain rfl : e = .returned (.bool false) := hm8;have hON : O = none := by rw [HQ.out, HPP.out]; rfl
     subst hON;go_wp2;go_ret2;exact ⟨HBW.out, rfl⟩
    | some S' =>
     obtain ⟨rfl, hr8⟩ := hm8;have HNX := Hh (show LdL w p (ns.map MNote.b) O (j + 1) S' N' w9 from ⟨hr8, HBW.out, HOW.out, readNote_good HL.out.good HPP.out, by rw [HQ.out, HPP.out]; rfl⟩);clear hr8;go_wp2;go_roundw
     case rel => exact ⟨j + 1, S', N', by go_num, by omega, HNX.out⟩
     case measure => simp [intOf]; omega
   ·have tj : decide ((j : Int) < (ns.length : Int)) = false := by simp; omega
    obtain rfl : j = ns.length := by omega
    have hO9 : O = some S.base := by
     rw [HL.out.q, List.drop_of_length_le (by simp)]; rfl
    subst hO9;have c4 : wr.cell? ⟨p, 4, none⟩ = some (.pointer (some ⟨N.lb, 0, none⟩)) := HL.out.rf.c rfl;go_wp2_with fail;refine (lineBase 0 N.lb S.line N.la N.lc N.ms _ HL.out.rf.ln).mono ?_;rintro e w2 ⟨rfl, m2, rfl⟩;have hrf := HL.out.rf.drawn (m := m2) rfl;have h8 := hrf.setCommit S.line.base;have h9 := h8.1.setApplied S.line.base;have HF := Hh h9.1;have HBF := Hh (show Below w.heap.size w (((wr.drewN m2).setCell ⟨p, 8, none⟩ (iz S.line.base)).setCell ⟨p, 9, none⟩ (iz S.line.base)) from
     HL.out.bel.trans (((below_drewN wr m2).mono hszr).trans ((h8.2.trans h9.2).below HL.out.own (by simpa using hszr))))
    have c8 : (wr.drewN m2).cell? ⟨p, 8, none⟩ = some (.int .i64 S.commit) := hrf.c rfl;have c9 : (wr.drewN m2).cell? ⟨p, 9, none⟩ = some (.int .i64 S.applied) := hrf.c rfl;have f8 := hrf.f 8;have f9 := hrf.f 9;clear h8 h9 hrf c4;go_wp2;go_ret2;exact ⟨HBF.out, p, N, rfl, HF.out, HL.out.own⟩
 ·have t1 : decide ((0 : Int) < (hd.length : Int)) = true := decide_eq_true (by omega);have HLH := Hh (show loadH (PRaft.new me n) hd = (PRaft.new me n).readHead hd by unfold loadH; rw [if_neg (fun e => hhd (by rw [e]; rfl))]);have HBH := Hh (show BsAt w1 w1.heap.size a hd.length c hd from (HH.out.below HM.out.2.1 (Nat.le_refl _)).mono hsz1);go_wp2_with fail;refine (raftReadHead p (PRaft.new me n) M hd a c _ HBH.out HM.out.1).mono ?_;rintro e w2 hm2;obtain ⟨P, hP⟩ : ∃ P, (PRaft.new me n).readHead hd = P := ⟨_, rfl⟩
  rw [hP] at hm2;have HPP := Hh hP;clear hP t1;cases P with
  | none =>
   obtain ⟨rfl, hsp⟩ := hm2;have hON : O = none := by rw [← HO.out, loadP, HLH.out, HPP.out]; rfl
   subst hON;have HBW := Hh (HM.out.2.1.trans ((hsp.touch M).below HM.out.2.2 hsz1));clear hsp;go_wp2;go_ret2;exact ⟨HBW.out, rfl⟩
  | some S0 =>
   obtain ⟨rfl, M2, hr2, hT2⟩ := hm2;have HL0 := Hh (show LdL w p (ns.map MNote.b) O 0 S0 M2 w2 from ⟨hr2, HM.out.2.1.trans (hT2.below HM.out.2.2 hsz1), hT2.inn HM.out.2.2 hsz1, readHead_good HPP.out, by rw [← HO.out, loadP, HLH.out, HPP.out]; rfl⟩);clear hr2 hT2;go_wp2_with fail;go_loopw [31] (fun iv wr => ∃ (j : Nat) (S : PRaft) (N : RMem), iv = .int .i64 j ∧ j ≤ ns.length ∧ LdL w p (ns.map MNote.b) O j S N wr) (fun iv _ => ns.length - (intOf iv).toNat)
   case atStart => exact ⟨0, _, _, rfl, by omega, HL0.out⟩
   case round =>
    obtain ⟨j, S, N, rfl, hj, hl9⟩ := hrel;have HL := Hh hl9;have hszr := hl9.bel.size;clear hl9;by_cases hlt : j < ns.length
    ·have tj : decide ((j : Int) < (ns.length : Int)) = true := by simpa using hlt
     have hk0 : (0 : Int) ≤ (j : Int) := by omega
     have hk1 : (j : Int) < (ns.length : Int) := by omega
     obtain ⟨m, hm9⟩ : ∃ m, ns[j]? = some m := ⟨_, List.getElem?_eq_getElem hlt⟩
     have hmm := List.mem_of_getElem? hm9;obtain ⟨b9, o, rfl, hb9, hc⟩ := HS.out.hat (by simp; omega);have e1 : (ns.map MNote.cell)[j]? = some (.slice m.a m.b.length m.c) := by simp [hm9, MNote.cell]
     have k1 : wr.cell? ⟨b9, o + j, none⟩ = some (.slice m.a m.b.length m.c) := (HL.out.bel.cell (p := ⟨b9, o + j, none⟩) hb9).trans ((hc _ (by simpa using hlt)).trans e1);have HBM := Hh (show BsAt wr wr.heap.size m.a m.b.length m.c m.b from ((HB.out m hmm).below HL.out.bel (Nat.le_refl _)).mono hszr);have hdrop : (ns.map MNote.b).drop j = m.b :: (ns.map MNote.b).drop (j + 1) := by
      have h9 : (ns.map MNote.b)[j]? = some m.b := by simp [hm9]
      obtain ⟨hl8, he8⟩ := List.getElem?_eq_some_iff.1 h9;rw [List.drop_eq_getElem_cons hl8, he8]
     have HQ := Hh (show O = (((S.readNote m.b).bind fun R' => R'.loads ((ns.map MNote.b).drop (j + 1)))).map PRaft.base by rw [HL.out.q, hdrop]; rfl);clear hc e1 hm9 hmm hdrop;go_wp2_with fail;refine (raftReadNote p S N m.b m.a m.c HL.out.good _ HBM.out HL.out.rf).mono ?_;rintro e w9 ⟨N', hT9, hm8⟩;have HBW := Hh (HL.out.bel.trans (hT9.below HL.out.own hszr));have HOW := Hh (hT9.inn HL.out.own hszr);obtain ⟨P, hP⟩ : ∃ P, S.readNote m.b = P := ⟨_, rfl⟩
     rw [hP] at hm8;have HPP := Hh hP;clear hT9 hP k1;cases P with
     | none =>
      obtain rfl : e = .returned (.bool false) := hm8;have hON : O = none := by rw [HQ.out, HPP.out]; rfl
      subst hON;go_wp2;go_ret2;exact ⟨HBW.out, rfl⟩
     | some S' =>
      obtain ⟨rfl, hr8⟩ := hm8;have HNX := Hh (show LdL w p (ns.map MNote.b) O (j + 1) S' N' w9 from ⟨hr8, HBW.out, HOW.out, readNote_good HL.out.good HPP.out, by rw [HQ.out, HPP.out]; rfl⟩);clear hr8;go_wp2;go_roundw
      case rel => exact ⟨j + 1, S', N', by go_num, by omega, HNX.out⟩
      case measure => simp [intOf]; omega
    ·have tj : decide ((j : Int) < (ns.length : Int)) = false := by simp; omega
     obtain rfl : j = ns.length := by omega
     have hO9 : O = some S.base := by
      rw [HL.out.q, List.drop_of_length_le (by simp)]; rfl
     subst hO9;have c4 : wr.cell? ⟨p, 4, none⟩ = some (.pointer (some ⟨N.lb, 0, none⟩)) := HL.out.rf.c rfl;go_wp2_with fail;refine (lineBase 0 N.lb S.line N.la N.lc N.ms _ HL.out.rf.ln).mono ?_;rintro e w2 ⟨rfl, m2, rfl⟩;have hrf := HL.out.rf.drawn (m := m2) rfl;have h8 := hrf.setCommit S.line.base;have h9 := h8.1.setApplied S.line.base;have HF := Hh h9.1;have HBF := Hh (show Below w.heap.size w (((wr.drewN m2).setCell ⟨p, 8, none⟩ (iz S.line.base)).setCell ⟨p, 9, none⟩ (iz S.line.base)) from
      HL.out.bel.trans (((below_drewN wr m2).mono hszr).trans ((h8.2.trans h9.2).below HL.out.own (by simpa using hszr))))
     have c8 : (wr.drewN m2).cell? ⟨p, 8, none⟩ = some (.int .i64 S.commit) := hrf.c rfl;have c9 : (wr.drewN m2).cell? ⟨p, 9, none⟩ = some (.int .i64 S.applied) := hrf.c rfl;have f8 := hrf.f 8;have f9 := hrf.f 9;clear h8 h9 hrf c4;go_wp2;go_ret2;exact ⟨HBF.out, p, N, rfl, HF.out, HL.out.own⟩
end Go.Proofs.YtogcnfhmcpkdcaaGreat
namespace Go.Proofs.YtogcnfhmcpkdcaaGreat
open Go.RowKit
set_option linter.unusedVariables false
set_option linter.unusedSimpArgs false
structure PRaft.Fit (R : PRaft) (B : Nat) : Prop where
 b0 : 0 ≤ R.bt
 b1 : R.bt ≤ 1099511627776
 f0 : -1 ≤ R.bf
 f1 : R.bf ≤ 6
 g : R.line.Good
 s : R.state.length ≤ 65536
 i : (putItems R.line.l).length ≤ B
theorem PRaft.Fit.put {R : PRaft} {B : Nat} (h : R.Fit B) : R.line.put.length ≤ B + 27 := by
 have hg := h.g;have := hg.b0; have := hg.b1; have := hg.t0; have := hg.t1; have := hg.n1; have := h.i;have h2 := putNum_le9 (show R.line.base.toNat < 18446744073709551616 by omega);have h3 := putNum_le9 (show R.line.term.toNat < 18446744073709551616 by omega);have h4 := putNum_le9 (show R.line.l.length < 18446744073709551616 by omega);simp only [PLine.put, List.length_append];omega
theorem head_ne (R : PRaft) : R.head ≠ [] := by
 intro e;have := congrArg List.length e;simp [PRaft.head, putNum] at this
theorem head_reads {R : PRaft} {B : Nat} (h : R.Fit B) (hB : B ≤ 1000000000) (S : PRaft) : S.readHead R.head = some { S with bt := R.bt, bf := R.bf, state := R.state, line := R.line } := by
 have hp := h.put;have := h.b0; have := h.b1; have := h.f0; have := h.f1; have := h.s;have hh : getHead R.head = .ok ((R.bt.toNat, (R.bf + 1).toNat), R.line.put, R.state) [] := by
  have e3 := getText_put 65536 R.state [] (by omega) h.s;rw [List.append_nil] at e3;rw [getHead, getBal, PRaft.head, getNum_put _ _ _ (by omega) (by omega), Res.bind_ok, getNum_put _ _ _ (by omega) (by omega), Res.bind_ok, Res.bind_ok, getText_put _ _ _ (by omega) (by omega), Res.bind_ok, e3, Res.bind_ok]
 rw [PRaft.readHead, hh];simp only [headOut, if_true, outL_put h.g, Option.map_some]
 congr 2
 ·omega
 ·omega
end Go.Proofs.YtogcnfhmcpkdcaaGreat
namespace Go.Proofs.YtogcnfhmcpkdcaaGreat
open Go.RowKit
set_option linter.unusedVariables false
set_option linter.unusedSimpArgs false
theorem getNum_end (most n : Nat) (h64 : n < 18446744073709551616) (hm : n ≤ most) : getNum most (putNum n) = .ok n [] := by
 have h := getNum_put most n [] h64 hm
 rwa [List.append_nil] at h
theorem getText_end (most : Nat) (t : List UInt8) (h64 : t.length < 18446744073709551616) (hm : t.length ≤ most) : getText most (putText t) = .ok t [] := by
 have h := getText_put most t [] h64 hm
 rwa [List.append_nil] at h
theorem getNote_ballot {bt bf : Int} (h0 : 0 ≤ bt) (h1 : bt ≤ 1099511627776) (f0 : -1 ≤ bf) (f1 : bf ≤ 6) : getNote (ballotNote bt bf) = .ok (.bal bt.toNat (bf + 1).toNat) [] := by
 rw [getNote, ballotNote, getNum_put _ _ _ (by omega) (by omega), Res.bind_ok, if_pos rfl, getNoteB, getBal, getNum_put _ _ _ (by omega) (by omega), Res.bind_ok, getNum_end _ _ (by omega) (by omega)];rfl
theorem getNote_item {at_ : Int} {it : PItem} (h0 : 1 ≤ at_) (h1 : at_ ≤ 1099511627776) (hr : rightI it = true) : getNote (itemNote at_ it) = .ok (.itm at_.toNat it.1.toNat it.2) [] := by
 obtain ⟨h2, h3, h4⟩ := (rightI_iff _).1 hr;rw [getNote, itemNote, getNum_put _ _ _ (by omega) (by omega), Res.bind_ok, if_neg (by omega), if_pos rfl, getNoteI, getNum_put _ _ _ (by omega) (by omega), Res.bind_ok, getNum_put _ _ _ (by omega) (by omega), Res.bind_ok, getText_end _ _ (by omega) (by omega), Res.bind_ok, if_neg (by omega)]
def PRaft.bare (R : PRaft) : PRaft := { PRaft.new R.me R.n with bt := R.bt, bf := R.bf, line := R.line, state := R.state }
theorem loads_append (S : PRaft) (l m : List (List UInt8)) : S.loads (l ++ m) = (S.loads l).bind fun T => T.loads m := by
 induction l generalizing S with
 | nil => rfl
 | cons b l ih =>
  show (S.readNote b).bind (fun T => T.loads (l ++ m)) = ((S.readNote b).bind fun T => T.loads l).bind fun T => T.loads m
  cases S.readNote b with
  | none => rfl
  | some T => exact ih T
def Tells (R R' : PRaft) : Prop := ∃ ns, R'.news = R.news ++ ns ∧ R.bare.loads ns = some R'.bare ∧ R'.jumped = R.jumped
theorem Tells.refl (R : PRaft) : Tells R R := ⟨[], by simp, rfl, rfl⟩
theorem Tells.same {R R' : PRaft} (h : R'.news = R.news) (hb : R'.bare = R.bare) (hj : R'.jumped = R.jumped := by rfl) : Tells R R' := ⟨[], by simp [h], by rw [hb]; rfl, hj⟩
theorem Tells.trans {R S T : PRaft} (h : Tells R S) (k : Tells S T) : Tells R T := by
 obtain ⟨a, a1, a2, a3⟩ := h;obtain ⟨b, b1, b2, b3⟩ := k;exact ⟨a ++ b, by rw [b1, a1, List.append_assoc], by rw [loads_append, a2]; exact b2, b3.trans a3⟩
theorem tells_ballot {R : PRaft} {t f : Int} (h0 : 0 ≤ t) (h1 : t ≤ 1099511627776) (f0 : -1 ≤ f) (f1 : f ≤ 6) : Tells R ({ R with bt := t, bf := f } : PRaft).noteBallot := by
 refine ⟨[ballotNote t f], rfl, ?_, rfl⟩;show (R.bare.readNote (ballotNote t f)).bind (fun T => some T) = _;rw [PRaft.readNote, getNote_ballot h0 h1 f0 f1];show some { R.bare with bt := (t.toNat : Int), bf := ((f + 1).toNat : Int) - 1 } = _;rw [show ((t.toNat : Nat) : Int) = t by omega, show (((f + 1).toNat : Nat) : Int) - 1 = f by omega];rfl
theorem addIs {x : PLine} {it : PItem} (hr : rightI it = true) (hf : fitsB x ((x.l.length : Int) + 1) = true) : x.add it = ({ x with l := x.l ++ [it] }, x.last + 1) := by
 unfold PLine.add; rw [if_pos ⟨hr, hf⟩]
theorem place_is {S : PRaft} {at_ : Int} {it : PItem} (hr : rightI it = true) (hg : S.line.Good) (h0 : S.line.base < at_) (h1 : at_ ≤ S.line.last + 1) (h2 : at_ ≤ 1099511627776) (h3 : at_ - S.line.base ≤ 4096) :
  S.place at_ it = some { S with line := ⟨S.line.base, S.line.term, S.line.l.take (at_ - S.line.base - 1).toNat ++ [it]⟩ } := by
 have hb := hg.b0;have hl : S.line.last = S.line.base + (S.line.l.length : Int) := rfl;have hlen : (S.line.l.take (at_ - S.line.base - 1).toNat).length = (at_ - S.line.base - 1).toNat := by rw [List.length_take]; omega
 have ha : (S.line.upTo at_).add it = (⟨S.line.base, S.line.term, S.line.l.take (at_ - S.line.base - 1).toNat ++ [it]⟩, at_) := by
  rw [addIs hr]
  ·show (_, S.line.base + ((S.line.l.take (at_ - S.line.base - 1).toNat).length : Int) + 1) = _;rw [hlen];exact Prod.ext rfl (by show S.line.base + ((at_ - S.line.base - 1).toNat : Int) + 1 = at_; omega)
  ·show fitsB _ (((S.line.l.take (at_ - S.line.base - 1).toNat).length : Int) + 1) = true;rw [hlen];simp [fitsB, PLine.upTo];omega
 unfold PRaft.place;rw [if_neg (by omega), ha, if_pos rfl]
theorem loads_items : ∀ (its : List PItem) (S : PRaft) (at_ : Int), S.line.Good → (∀ it ∈ its, rightI it = true) → S.line.base < at_ → at_ ≤ S.line.last + 1 → at_ + its.length ≤ 1099511627777 → at_ - S.line.base + its.length ≤ 4097 → its ≠ [] →
  S.loads (itemNotes at_ its) = some { S with line := ⟨S.line.base, S.line.term, S.line.l.take (at_ - S.line.base - 1).toNat ++ its⟩ }
 | [], S, at_, _, _, _, _, _, _, hne => absurd rfl hne
 | it :: r, S, at_, hg, hr, h0, h1, h2, h3, _ => by
  have hb := hg.b0;have hit := hr it (by simp);have hl : S.line.last = S.line.base + (S.line.l.length : Int) := rfl;simp only [List.length_cons] at h2 h3;show (S.readNote (itemNote at_ it)).bind (fun T => T.loads (itemNotes (at_ + 1) r)) = _;obtain ⟨g1, g2, g3⟩ := (rightI_iff _).1 hit;rw [PRaft.readNote, getNote_item (by omega) (by omega) hit];have hp := place_is (S := S) (at_ := at_) hit hg h0 h1 (by omega) (by omega);have hnm : noteOut S (.ok (.itm at_.toNat it.1.toNat it.2) []) = S.place at_ it := by
   show S.place ((at_.toNat : Nat) : Int) (((it.1.toNat : Nat) : Int), it.2) = _;rw [show ((at_.toNat : Nat) : Int) = at_ by omega, show ((it.1.toNat : Nat) : Int) = it.1 by omega]
  rw [hnm, hp];show PRaft.loads _ (itemNotes (at_ + 1) r) = _;have hlen : (S.line.l.take (at_ - S.line.base - 1).toNat).length = (at_ - S.line.base - 1).toNat := by rw [List.length_take]; omega
  by_cases hne : r = []
  ·subst hne; rfl
  ·obtain ⟨T, hT⟩ : ∃ T : PRaft, T = { S with line := ⟨S.line.base, S.line.term, S.line.l.take (at_ - S.line.base - 1).toNat ++ [it]⟩ } := ⟨_, rfl⟩
   have e1 : T.line.base = S.line.base := by rw [hT]
   have e2 : T.line.l = S.line.l.take (at_ - S.line.base - 1).toNat ++ [it] := by rw [hT]
   have e3 : T.line.last = at_ := by
    show T.line.base + (T.line.l.length : Int) = at_;rw [e1, e2]; simp [hlen]; omega
   have hgT : T.line.Good := by
    rw [hT];exact ⟨hg.b0, hg.b1, hg.t0, hg.t1, by simp [hlen]; omega, by simp [hlen]; omega, fun y hy => by
     simp only [List.mem_append, List.mem_singleton] at hy;rcases hy with hy | rfl
     ·exact hg.its y (List.mem_of_mem_take hy)
     ·exact hit⟩
   rw [← hT, loads_items r T (at_ + 1) hgT (fun y hy => hr y (List.mem_cons_of_mem _ hy)) (by omega) (by omega) (by omega) (by omega) hne];rw [e1, e2, show (at_ + 1 - S.line.base - 1).toNat = (at_ - S.line.base - 1).toNat + 1 by omega];rw [List.take_of_length_le (by rw [List.length_append, hlen]; simp)];subst hT;simp [List.append_assoc]
theorem tells_items {R : PRaft} (hg : R.line.Good) {at_ : Int} {its : List PItem} (hne : its ≠ []) (h0 : R.line.base < at_) (h1 : at_ ≤ R.line.last + 1) (hg' : ({ R.line with l := R.line.l.take (at_ - R.line.base - 1).toNat ++ its } : PLine).Good) :
  Tells R (({ R with line := { R.line with l := R.line.l.take (at_ - R.line.base - 1).toNat ++ its } } : PRaft).noteItems at_) := by
 have hb := hg.b0;have hl : R.line.last = R.line.base + (R.line.l.length : Int) := rfl;have hlen : (R.line.l.take (at_ - R.line.base - 1).toNat).length = (at_ - R.line.base - 1).toNat := by rw [List.length_take]; omega
 have hn1 := hg'.n1;have hn2 := hg'.n2;simp only [List.length_append, hlen] at hn1 hn2;have hpos : 0 < its.length := by cases its with
  | nil => exact absurd rfl hne
  | cons a r => simp
 have hfr : ({ R.line with l := R.line.l.take (at_ - R.line.base - 1).toNat ++ its } : PLine).from_ at_ 4096 = its := by
  unfold PLine.from_;have hlast : ({ R.line with l := R.line.l.take (at_ - R.line.base - 1).toNat ++ its } : PLine).last = at_ - 1 + its.length := by
   show R.line.base + ((R.line.l.take (at_ - R.line.base - 1).toNat ++ its).length : Int) = _;simp only [List.length_append, hlen]; omega
  rw [if_neg (by rw [hlast]; show ¬ (at_ ≤ R.line.base ∨ _ ∨ _); omega)];show ((R.line.l.take (at_ - R.line.base - 1).toNat ++ its).drop (at_ - R.line.base - 1).toNat).take (4096 : Int).toNat = its;rw [List.drop_append_of_le_length (by omega), List.drop_of_length_le (by omega), List.nil_append, List.take_of_length_le (by omega)]
 refine ⟨itemNotes at_ its, ?_, ?_, rfl⟩
 ·show R.news ++ itemNotes at_ (({ R.line with l := R.line.l.take (at_ - R.line.base - 1).toNat ++ its } : PLine).from_ at_ 4096) = _;rw [hfr]
 ·rw [loads_items its R.bare at_ hg (fun it hit => hg'.its it (List.mem_append_right _ hit)) h0 h1 (by show at_ + _ ≤ _; omega) (by show at_ - R.line.base + _ ≤ _; omega) hne];rfl
theorem tells_post (R : PRaft) (who : Int) (x : PLet) : Tells R (R.post who x) := .same rfl rfl
theorem tells_send (R : PRaft) (who : Int) : Tells R (R.send who) := by
 obtain ⟨y, hy⟩ := send_eq R who;rw [hy]; exact .same rfl rfl
theorem tells_beat (R : PRaft) : Tells R (R.others PRaft.send) := by
 obtain ⟨o, ho, -⟩ := others_out (f := PRaft.send) send_eq R;rw [ho]; exact .same rfl rfl
theorem tells_look (R : PRaft) : Tells R R.look := by
 obtain ⟨m, c, he, -⟩ := look_eq R;rw [he]; exact .same rfl rfl
theorem tells_add {R : PRaft} (hg : R.line.Good) (it : PItem) (h : (R.add it).2 ≠ 0) : Tells R ((R.add it).1.noteItems (R.add it).2) := by
 rcases add_eq R.line it with e | ⟨e, hr, hf⟩
 ·exact absurd (by show (R.line.add it).2 = 0; rw [e]) h
 ·have h1 : R.add it = ({ R with line := { R.line with l := R.line.l ++ [it] } }, R.line.last + 1) := by unfold PRaft.add; rw [e]
  rw [h1];have hl : R.line.last = R.line.base + (R.line.l.length : Int) := rfl;have hg9 := hg.add it;rw [e] at hg9;have e2 : R.line.l.take (R.line.last + 1 - R.line.base - 1).toNat = R.line.l := List.take_of_length_le (by omega);have h2 := tells_items (R := R) hg (at_ := R.line.last + 1) (its := [it]) (by simp) (by omega) (by omega) (by rw [e2]; exact hg9);rw [e2] at h2;exact h2
theorem tells_lead (R : PRaft) (hg : R.line.Good) : Tells R R.goLead := by
 refine Tells.trans (Tells.trans (S := R.lead1) ?_ (tells_look _)) (tells_beat _);have h0 : Tells R R.lead0 := .same rfl rfl;unfold PRaft.lead1;simp only;split
 ·rename_i h9
  exact h0.trans (tells_add (R := R.lead0) hg (R.bt, []) (by omega))
 ·rename_i h9
  refine h0.trans ?_;rcases add_eq R.lead0.line (R.bt, []) with e | ⟨e, hr, hf⟩
  ·have : (R.lead0.add (R.bt, [])).1 = R.lead0 := by unfold PRaft.add; rw [e]
   rw [this]; exact .refl _
  ·exfalso;apply h9;show 0 < (R.lead0.line.add (R.bt, [])).2;rw [e];have := hg.b0;show 0 < R.line.base + (R.line.l.length : Int) + 1;omega
theorem tells_count (R : PRaft) (hg : R.line.Good) (f : Int) : Tells R (R.count f) := by
 unfold PRaft.count;simp only;split
 ·exact Tells.trans (S := { R with votes := R.votes.set f.toNat 1 }) (.same rfl rfl) (tells_lead _ hg)
 ·exact .same rfl rfl
theorem tells_stand {R : PRaft} (h : R.Ok) : Tells R R.stand := by
 unfold PRaft.stand;split
 ·exact .same rfl rfl
 ·rename_i hb
  have h0 := h.bt0; have h2 := h.me0; have h3 := h.men; have h4 := h.n7;obtain ⟨o, e⟩ := others_out' (fun S who => S.post who ⟨1, 0, R.line.last, (tmIs R.line R.line.last).1, 0, false, [], []⟩) (fun S i => ⟨_, rfl⟩) R.stand0;rw [e];have h1 : Tells R R.stand0 := Tells.trans (S := { R with ticks := 0 }) (.same rfl rfl) (Tells.trans (tells_ballot (R := { R with ticks := 0 }) (t := R.bt + 1) (f := R.me) (by omega) (by omega) (by omega) (by omega)) (.same rfl rfl));exact (h1.trans (.same rfl rfl)).trans (tells_count { R.stand0 with out := o } h.line _)
theorem tells_tick {R : PRaft} (h : R.Ok) : Tells R R.tick := by
 unfold PRaft.tick;simp only;split
 ·exact Tells.trans (S := { R with ticks := 0 }) (.same rfl rfl) (tells_beat _)
 ·split
  ·have e : ({ R with ticks := R.ticks + 1 } : PRaft).stand = R.stand := by
    unfold PRaft.stand; simp only; rfl
   rw [e];exact tells_stand h
  ·exact .same rfl rfl
theorem tells_propose {R : PRaft} (h : R.Ok) (b : List UInt8) : Tells R (R.propose b).1 := by
 unfold PRaft.propose;split
 ·exact .refl _
 ·split
  ·exact .refl _
  ·split
   ·exact .refl _
   ·simp only;split
    ·exact .refl _
    ·rename_i h9
     exact ((tells_add h.line (R.bt, b) h9).trans (tells_look _)).trans (tells_beat _)
theorem tells_asked {R : PRaft} (h : R.Ok) (f : Int) (x : PLet) : Tells R (R.asked f x) := by
 unfold PRaft.asked;simp only;refine Tells.trans ?_ (tells_post _ _ _);generalize asNew x.a x.u R.line.last (tmIs R.line R.line.last).1 = an;have h1 : Tells R (if granted R.bt R.bf f x.t an = true then ({ R with ticks := 0 } : PRaft) else R) := by
  split
  ·exact .same rfl rfl
  ·exact .refl _
 have hf : -1 ≤ grantF R.bt R.bf f x.t an ∧ grantF R.bt R.bf f x.t an ≤ 6 := by
  unfold grantF;split
  ·rename_i h9; have := isWho_6 (granted_who h9); omega
  ·exact ⟨h.bf0, h.bf1⟩
 split
 ·refine h1.trans ?_;rw [grantT_eq];exact tells_ballot h.bt0 h.bt1 hf.1 hf.2
 ·exact h1
theorem tells_said {R : PRaft} (h : R.Ok) (f : Int) (x : PLet) : Tells R (R.said f x) := by
 unfold PRaft.said;split
 ·exact tells_count _ h.line _
 ·exact .refl _
theorem tells_follows (R : PRaft) (f : Int) (x : PLet) : Tells R (R.follows f x).1 := by
 unfold PRaft.follows;split
 ·exact tells_post _ _ _
 ·split
  ·exact .refl _
  ·exact .same rfl rfl
theorem tells_sent {R : PRaft} (h : R.Ok) (f : Int) (x : PLet) : Tells R (R.sent f x) := by
 unfold PRaft.sent;have hF := ok_follows h f x;have hT := tells_follows R f x;generalize R.follows f x = F at hF hT;obtain ⟨S, b⟩ := F;have hF : S.Ok := hF;have hT : Tells R S := hT;show Tells R (if b = true then S.sent1 f x else S);split
 ·refine hT.trans ?_;unfold PRaft.sent1;simp only;have hg := hF.line.join x.a x.u x.its;rcases join_spec hF.line x.a x.u x.its with e | ⟨e, -⟩ | ⟨j, k, e, hp0, hp1, hj, hk, hbj, hjl, -, -, -, -, hlast⟩
  ·rw [e];simp only;rw [if_neg (by simp)]; simp only [if_true];exact tells_post _ _ _
  ·rw [e];simp only;rw [if_neg (by simp), if_neg (by simp), if_neg (by simp)];exact Tells.trans (S := { S with commit := max S.commit (min x.o (x.a + x.its.length)) }) (.same rfl rfl) (tells_post _ _ _)
  ·rw [e] at hg ⊢;simp only at hg ⊢;have hb0 := hF.line.b0;split
   ·exact .refl _
   ·rw [if_neg (by simp), if_pos (by omega)];have hne : x.its.drop k ≠ [] := fun e9 => by
     have := congrArg List.length e9;simp at this; omega
    exact Tells.trans (tells_items hF.line hne hbj hjl hg) (.same rfl rfl)
 ·exact hT
theorem tells_got (R : PRaft) (f : Int) (x : PLet) : Tells R (R.got f x) := by
 unfold PRaft.got;split
 ·exact .refl _
 ·split
  ·simp only;split
   ·exact (Tells.trans (S := { R with mat := R.mat.set f.toNat (max (R.mat.getD f.toNat 0) x.a), nxt := R.nxt.set f.toNat (max (R.nxt.getD f.toNat 0) (x.a + 1)) }) (.same rfl rfl) (tells_look _)).trans (tells_send _ _)
   ·exact Tells.trans (S := { R with mat := R.mat.set f.toNat (max (R.mat.getD f.toNat 0) x.a), nxt := R.nxt.set f.toNat (max (R.nxt.getD f.toNat 0) (x.a + 1)) }) (.same rfl rfl) (tells_look _)
  ·split
   ·exact Tells.trans (S := { R with nxt := R.nxt.set f.toNat (max (R.mat.getD f.toNat 0 + 1) (min (x.a + 1) x.o)) }) (.same rfl rfl) (tells_send _ _)
   ·exact .refl _
theorem tells_stepUp {R : PRaft} (h : R.Ok) {t : Int} (h1 : t ≤ 1099511627776) : Tells R (R.stepUp t) := by
 unfold PRaft.stepUp;split
 ·have h0 := h.bt0;exact (tells_ballot (by omega) h1 (by omega) (by omega)).trans (.same rfl rfl)
 ·exact .refl _
theorem tells_given {R : PRaft} (h : R.Ok) (f : Int) (x : PLet) : (Tells R (R.given f x) ∧ (R.given f x).jumped = R.jumped) ∨ (R.given f x).jumped = true := by
 unfold PRaft.given;have hT := tells_follows R f x;have hj : (R.follows f x).1.jumped = R.jumped := by
  unfold PRaft.follows;split
  ·rfl
  ·split <;> rfl
 generalize R.follows f x = F at hT hj;obtain ⟨S, b⟩ := F;have hT : Tells R S := hT;have hj : S.jumped = R.jumped := hj;show (Tells R (if b = true then S.given1 f x else S) ∧ (if b = true then S.given1 f x else S).jumped = R.jumped) ∨ (if b = true then S.given1 f x else S).jumped = true;split
 ·unfold PRaft.given1;split
  ·exact .inl ⟨hT.trans (tells_post _ _ _), hj⟩
  ·exact .inr rfl
 ·exact .inl ⟨hT, hj⟩
theorem tells_handle {R : PRaft} (h : R.Ok) (f : Int) (x : PLet) : Tells R (R.handle f x) ∨ (R.handle f x).jumped = true := by
 unfold PRaft.handle;split
 ·exact .inl (.refl _)
 ·rename_i h9
  have hr : rightL x = true := by
   cases hh : rightL x with
   | true => rfl
   | false => exact absurd (.inr (.inr (.inr hh))) h9
  have h1 := ok_stepUp h (right_places hr).2.1.2;have h2 := tells_stepUp h (right_places hr).2.1.2;unfold PRaft.heard;split
  ·exact .inl (h2.trans (tells_asked h1 f x))
  ·split
   ·exact .inl (h2.trans (tells_said h1 f x))
   ·split
    ·exact .inl (h2.trans (tells_sent h1 f x))
    ·split
     ·exact .inl (h2.trans (tells_got _ f x))
     ·split
      ·rcases tells_given h1 f x with h3 | h3
       ·exact .inl (h2.trans h3.1)
       ·exact .inr h3
      ·exact .inl h2
theorem putItems_drop (l : List PItem) (k : Nat) : (putItems (l.drop k)).length ≤ (putItems l).length := by
 conv => rhs; rw [← List.take_append_drop k l, putItems_append, List.length_append]
 omega
theorem putItem_len {it : PItem} (h : rightI it = true) : (putItems [it]).length ≤ 18 + it.2.length := by
 obtain ⟨h1, h2, h3⟩ := (rightI_iff _).1 h;have h4 := putNum_le9 (show it.1.toNat < 18446744073709551616 by omega);have h5 := putNum_le9 (show it.2.length < 18446744073709551616 by omega);simp [putItems, putText]; omega
theorem itemNotes_len : ∀ (a : Int) (l : List PItem), (itemNotes a l).length = l.length
 | _, [] => rfl
 | a, it :: l => by simp [itemNotes, itemNotes_len (a + 1) l]
def Grows (a b c : Nat) (R R' : PRaft) : Prop := R'.news.length ≤ R.news.length + a ∧ R'.out.length ≤ R.out.length + b ∧ (putItems R'.line.l).length ≤ (putItems R.line.l).length + c
theorem Grows.refl (R : PRaft) : Grows 0 0 0 R R := ⟨by omega, by omega, by omega⟩
theorem Grows.trans {a b c a' b' c' : Nat} {R S T : PRaft} (h : Grows a b c R S) (k : Grows a' b' c' S T) : Grows (a + a') (b + b') (c + c') R T := ⟨by have := h.1; have := k.1; omega, by have := h.2.1; have := k.2.1; omega, by have := h.2.2; have := k.2.2; omega⟩
theorem Grows.le {a b c a' b' c' : Nat} {R S : PRaft} (h : Grows a b c R S) (h1 : a ≤ a' := by omega) (h2 : b ≤ b' := by omega) (h3 : c ≤ c' := by omega) : Grows a' b' c' R S := ⟨by have := h.1; omega, by have := h.2.1; omega, by have := h.2.2; omega⟩
theorem Grows.same {R R' : PRaft} (h1 : R'.news = R.news := by rfl) (h2 : R'.out = R.out := by rfl) (h3 : R'.line = R.line := by rfl) : Grows 0 0 0 R R' := ⟨by rw [h1]; omega, by rw [h2]; omega, by rw [h3]; omega⟩
theorem grows_post (R : PRaft) (who : Int) (x : PLet) : Grows 0 1 0 R (R.post who x) := ⟨Nat.le_refl _, by simp [PRaft.post], Nat.le_refl _⟩
theorem grows_send (R : PRaft) (who : Int) : Grows 0 1 0 R (R.send who) := by
 obtain ⟨y, hy⟩ := send_eq R who;rw [hy]; exact ⟨Nat.le_refl _, by simp, Nat.le_refl _⟩
theorem grows_others {R : PRaft} (h7 : R.n ≤ 7) (f : PRaft → Int → PRaft) (hf : ∀ R i, ∃ y, f R i = { R with out := R.out ++ [y] }) : Grows 0 7 0 R (R.others f) := by
 obtain ⟨o, ho, hl⟩ := others_out hf R;rw [ho]; exact ⟨Nat.le_refl _, by show o.length ≤ _; omega, Nat.le_refl _⟩
theorem grows_look (R : PRaft) : Grows 0 0 0 R R.look := by
 obtain ⟨m, c, he, -⟩ := look_eq R;rw [he]; exact .same
theorem grows_noteBallot (R : PRaft) : Grows 1 0 0 R R.noteBallot := ⟨by simp [PRaft.noteBallot], Nat.le_refl _, Nat.le_refl _⟩
theorem from_len (x : PLine) (i : Int) : (x.from_ i 4096).length ≤ 4096 := by
 unfold PLine.from_; split
 ·simp
 ·simp; omega
theorem grows_noteItems (R : PRaft) (a : Int) : Grows 4096 0 0 R (R.noteItems a) := ⟨by have := from_len R.line a; simp [PRaft.noteItems, itemNotes_len]; omega, Nat.le_refl _, Nat.le_refl _⟩
theorem grows_add (R : PRaft) (it : PItem) : Grows 0 0 (18 + it.2.length) R (R.add it).1 := by
 refine ⟨Nat.le_refl _, Nat.le_refl _, ?_⟩;show (putItems (R.line.add it).1.l).length ≤ _;rcases add_eq R.line it with e | ⟨e, hr, -⟩ <;> rw [e]
 ·show (putItems R.line.l).length ≤ _;omega
 ·show (putItems (R.line.l ++ [it])).length ≤ _;rw [putItems_append, List.length_append];have := putItem_len hr;omega
theorem grows_goLead {R : PRaft} (h7 : R.n ≤ 7) : Grows 4096 7 18 R R.goLead := by
 have h1 : Grows 4096 0 18 R R.lead1 := by
  have h0 : Grows 0 0 0 R R.lead0 := .same;have ha : Grows 0 0 18 R.lead0 (R.lead0.add (R.bt, [])).1 := grows_add R.lead0 (R.bt, []);unfold PRaft.lead1;simp only;split
  ·exact ((h0.trans ha).trans (grows_noteItems _ _)).le
  ·exact (h0.trans ha).le
 have h2 : R.lead1.look.n ≤ 7 := by
  obtain ⟨m, c, he, -⟩ := look_eq R.lead1;obtain ⟨l, n, e⟩ := lead1_eq R;rw [he, e]; exact h7
 exact ((h1.trans (grows_look _)).trans (grows_others h2 _ send_eq)).le
theorem grows_count {R : PRaft} (h7 : R.n ≤ 7) (f : Int) : Grows 4096 7 18 R (R.count f) := by
 unfold PRaft.count;simp only;split
 ·exact (Grows.trans (S := { R with votes := R.votes.set f.toNat 1 }) .same (grows_goLead h7)).le
 ·exact (Grows.same (R' := { R with votes := R.votes.set f.toNat 1 })).le
theorem grows_stand {R : PRaft} (h7 : R.n ≤ 7) : Grows 4097 14 18 R R.stand := by
 unfold PRaft.stand;split
 ·exact (Grows.same (R' := { R with ticks := 0 })).le
 ·have h1 : Grows 1 0 0 R R.stand0 := ⟨by simp [PRaft.stand0, PRaft.noteBallot], Nat.le_refl _, Nat.le_refl _⟩
  have h2 := grows_others (R := R.stand0) h7 (fun S who => S.post who ⟨1, 0, R.line.last, (tmIs R.line R.line.last).1, 0, false, [], []⟩) (fun S i => ⟨_, rfl⟩);obtain ⟨o, e⟩ := others_out' (fun S who => S.post who ⟨1, 0, R.line.last, (tmIs R.line R.line.last).1, 0, false, [], []⟩) (fun S i => ⟨_, rfl⟩) R.stand0;have h3 : (R.stand0.others fun S who => S.post who ⟨1, 0, R.line.last, (tmIs R.line R.line.last).1, 0, false, [], []⟩).n ≤ 7 := by rw [e]; exact h7
  exact ((h1.trans h2).trans (grows_count h3 _)).le
theorem grows_tick {R : PRaft} (h7 : R.n ≤ 7) : Grows 4097 14 18 R R.tick := by
 unfold PRaft.tick;simp only;split
 ·exact (Grows.trans (S := { R with ticks := 0 }) (a' := 0) (b' := 7) (c' := 0) .same (grows_others (R := { R with ticks := 0 }) h7 _ send_eq)).le
 ·split
  ·exact (Grows.trans (S := { R with ticks := R.ticks + 1 }) (a' := 4097) (b' := 14) (c' := 18) .same (grows_stand (R := { R with ticks := R.ticks + 1 }) h7)).le
  ·exact (Grows.same (R' := { R with ticks := R.ticks + 1 })).le
theorem grows_propose {R : PRaft} (h7 : R.n ≤ 7) (b : List UInt8) : Grows 4096 7 (18 + b.length) R (R.propose b).1 := by
 unfold PRaft.propose;split
 ·exact (Grows.refl _).le
 ·split
  ·exact (Grows.refl _).le
  ·split
   ·exact (Grows.refl _).le
   ·simp only;split
    ·exact (Grows.refl _).le
    ·have h2 : ((R.add (R.bt, b)).1.noteItems (R.add (R.bt, b)).2).look.n ≤ 7 := by
      obtain ⟨m, c, he, -⟩ := look_eq ((R.add (R.bt, b)).1.noteItems (R.add (R.bt, b)).2);rw [he]; exact h7
     have ha : Grows 0 0 (18 + b.length) R (R.add (R.bt, b)).1 := grows_add R (R.bt, b);exact (((ha.trans (grows_noteItems _ _)).trans (grows_look _)).trans (grows_others h2 _ send_eq)).le
theorem grows_asked (R : PRaft) (f : Int) (x : PLet) : Grows 1 1 0 R (R.asked f x) := by
 unfold PRaft.asked;simp only;generalize asNew x.a x.u R.line.last (tmIs R.line R.line.last).1 = an;have h1 : Grows 0 0 0 R (if granted R.bt R.bf f x.t an = true then ({ R with ticks := 0 } : PRaft) else R) := by
  split
  ·exact .same
  ·exact .refl _
 refine (Grows.trans (a := 1) (b := 0) (c := 0) ?_ (grows_post _ _ _)).le;split
 ·refine (h1.trans (Grows.trans (S := { (if granted R.bt R.bf f x.t an = true then ({ R with ticks := 0 } : PRaft) else R) with bt := grantT R.bt R.bf f x.t an, bf := grantF R.bt R.bf f x.t an }) .same (grows_noteBallot _))).le
 ·exact h1.le
theorem grows_said {R : PRaft} (h7 : R.n ≤ 7) (f : Int) (x : PLet) : Grows 4096 7 18 R (R.said f x) := by
 unfold PRaft.said;split
 ·exact grows_count h7 f
 ·exact (Grows.refl _).le
theorem grows_follows (R : PRaft) (f : Int) (x : PLet) : Grows 0 1 0 R (R.follows f x).1 := by
 unfold PRaft.follows;split
 ·exact grows_post _ _ _
 ·split
  ·exact (Grows.refl _).le
  ·exact (Grows.same (R' := { R with role := 0, lead := f, ticks := 0 })).le
theorem grows_sent {R : PRaft} (h : R.Ok) (f : Int) (x : PLet) : Grows 4096 2 (putItems x.its).length R (R.sent f x) := by
 unfold PRaft.sent;have hF := ok_follows h f x;have hT := grows_follows R f x;generalize R.follows f x = F at hF hT;obtain ⟨S, b⟩ := F;have hF : S.Ok := hF;have hT : Grows 0 1 0 R S := hT;show Grows _ _ _ R (if b = true then S.sent1 f x else S);split
 ·refine (Grows.trans (a' := 4096) (b' := 1) (c' := (putItems x.its).length) hT ?_).le;unfold PRaft.sent1;simp only;rcases join_spec hF.line x.a x.u x.its with e | ⟨e, -⟩ | ⟨j, k, e, hp0, hp1, hj, hk, hbj, hjl, -, -, -, -, hlast⟩
  ·rw [e];simp only;rw [if_neg (by simp)]; simp only [if_true];exact (grows_post _ _ _).le
  ·rw [e];simp only;rw [if_neg (by simp), if_neg (by simp), if_neg (by simp)];exact (Grows.trans (S := { S with commit := max S.commit (min x.o (x.a + x.its.length)) }) .same (grows_post _ _ _)).le
  ·rw [e];simp only;have hb0 := hF.line.b0;split
   ·exact (Grows.refl _).le
   ·rw [if_neg (by simp), if_pos (by omega)];have h1 : Grows 0 0 (putItems x.its).length S { S with line := { S.line with l := S.line.l.take (j - S.line.base - 1).toNat ++ x.its.drop k } } := by
     refine ⟨Nat.le_refl _, Nat.le_refl _, ?_⟩;show (putItems (S.line.l.take (j - S.line.base - 1).toNat ++ x.its.drop k)).length ≤ _;rw [putItems_append, List.length_append];have := putItems_take S.line.l (j - S.line.base - 1).toNat;have := putItems_drop x.its k;omega
    exact ((h1.trans (grows_noteItems _ j)).trans (Grows.trans (R := ({ S with line := { S.line with l := S.line.l.take (j - S.line.base - 1).toNat ++ x.its.drop k } } : PRaft).noteItems j) (S := { (({ S with line := { S.line with l := S.line.l.take (j - S.line.base - 1).toNat ++ x.its.drop k } } : PRaft).noteItems j) with commit := max S.commit (min x.o (x.a + x.its.length)) }) .same (grows_post _ _ _))).le
 ·exact hT.le
theorem grows_got (R : PRaft) (f : Int) (x : PLet) : Grows 0 1 0 R (R.got f x) := by
 unfold PRaft.got;split
 ·exact (Grows.refl _).le
 ·split
  ·have h1 : Grows 0 0 0 R ({ R with mat := R.mat.set f.toNat (max (R.mat.getD f.toNat 0) x.a), nxt := R.nxt.set f.toNat (max (R.nxt.getD f.toNat 0) (x.a + 1)) } : PRaft).look := (Grows.trans (S := { R with mat := R.mat.set f.toNat (max (R.mat.getD f.toNat 0) x.a), nxt := R.nxt.set f.toNat (max (R.nxt.getD f.toNat 0) (x.a + 1)) }) .same (grows_look _)).le;simp only;split
   ·exact (h1.trans (grows_send _ _)).le
   ·exact h1.le
  ·split
   ·exact (Grows.trans (S := { R with nxt := R.nxt.set f.toNat (max (R.mat.getD f.toNat 0 + 1) (min (x.a + 1) x.o)) }) .same (grows_send _ _)).le
   ·exact (Grows.refl _).le
theorem grows_given (R : PRaft) (f : Int) (x : PLet) : Grows 0 2 0 R (R.given f x) := by
 unfold PRaft.given;have hT := grows_follows R f x;generalize R.follows f x = F at hT;obtain ⟨S, b⟩ := F;have hT : Grows 0 1 0 R S := hT;show Grows _ _ _ R (if b = true then S.given1 f x else S);split
 ·refine (hT.trans (a' := 0) (b' := 1) (c' := 0) ?_).le;unfold PRaft.given1;split
  ·exact grows_post _ _ _
  ·refine ⟨Nat.le_refl _, by simp [PRaft.post], ?_⟩;show (putItems (S.giveLine x).l).length ≤ _;unfold PRaft.giveLine;split
   ·unfold PLine.drop;split
    ·show (putItems S.line.l).length ≤ _;omega
    ·have := putItems_drop S.line.l (x.a - S.line.base).toNat;show (putItems (S.line.l.drop (x.a - S.line.base).toNat)).length ≤ _;omega
   ·show (putItems []).length ≤ _;simp [putItems]
 ·exact hT.le
theorem grows_stepUp (R : PRaft) (t : Int) : Grows 1 0 0 R (R.stepUp t) := by
 unfold PRaft.stepUp;split
 ·exact ⟨by simp [PRaft.noteBallot], Nat.le_refl _, Nat.le_refl _⟩
 ·exact (Grows.refl _).le
theorem grows_handle {R : PRaft} (h : R.Ok) (f : Int) (x : PLet) : Grows 4097 7 (18 + (putItems x.its).length) R (R.handle f x) := by
 unfold PRaft.handle;split
 ·exact (Grows.refl _).le
 ·rename_i h9
  have hr : rightL x = true := by
   cases hh : rightL x with
   | true => rfl
   | false => exact absurd (.inr (.inr (.inr hh))) h9
  have h1 := ok_stepUp h (right_places hr).2.1.2;have h2 := grows_stepUp R x.t;unfold PRaft.heard;split
  ·exact (h2.trans (grows_asked _ f x)).le
  ·split
   ·exact (h2.trans (grows_said h1.n7 f x)).le
   ·split
    ·exact (h2.trans (grows_sent h1 f x)).le
    ·split
     ·exact (h2.trans (grows_got _ f x)).le
     ·split
      ·exact (h2.trans (grows_given _ f x)).le
      ·exact h2.le
end Go.Proofs.YtogcnfhmcpkdcaaGreat
