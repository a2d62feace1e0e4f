/-
  Reading functions that fill several blocks; contracts of readBallot and readHead.
  Contract of readHead.
  Contract of readHead.
-/
import Derived.Test.YtogcnfhmcpkdcaaGreatRaftM3
import Derived.Test.YtogcnfhmcpkdcaaGreatReadM
import Derived.Test.YtogcnfhmcpkdcaaGreatLineM3
namespace Go.Proofs.YtogcnfhmcpkdcaaGreat
open Go.RowKit
set_option linter.unusedVariables false
set_option linter.unusedSimpArgs false
structure ReadsSet {α : Type} (q : Nat) (P : Nat → Prop) (r : Res α) (w w' : World) (e : Ending) (is : α → Prop) : Prop where
 os : w'.os = w.os
 tape : w'.tape = w.tape
 output : w'.output = w.output
 size : w.heap.size ≤ w'.heap.size
 block : ∀ k, k < w.heap.size → k ≠ q → ¬ P k → w'.heap[k]? = w.heap[k]?
 bad : ∀ x, r = .err x → e = broke x
 good : ∀ v rest, r = .ok v rest → e = .returned (.tuple #[]) ∧ EyeLen w' q rest.length ∧ is v
theorem fieldReadSet {α : Type} (r : Res α) (hs : r.sane) (l : List UInt8) (a : Option Addr) (n c : Nat) (f : FuncId) (hf : ∀ args w, Sem.run Tryz.prog (callFunc f args) w = .ok (.enter f args) w) (first cap : Array Value) (P : Nat → Prop) (w : World)
  (hp : ∀ k, P k → k < w.heap.size) (h : BsAt w w.heap.size a n c l) (is : World → World → α → Prop)
  (hdo : ∀ q w1, Below w.heap.size w w1 → w.heap.size < q → EyeAt w1 q l → Calls Tryz.prog f (first.push (.pointer (some ⟨q, 0, none⟩)) ++ cap) w1 fun e w' => ReadsSet q P r w1 w' e (is w1 w')) :
  Calls Tryz.prog 90 #[.slice a n c, .func (.func f) first cap] w fun e w2 => e = .returned (.int .i64 r.code) ∧ (w2.os = w.os ∧ w2.tape = w.tape ∧ w2.output = w.output ∧ w.heap.size ≤ w2.heap.size ∧ ∀ k, k < w.heap.size → ¬ P k → w2.heap[k]? = w.heap[k]?) ∧
   ∀ v, r = .ok v [] → ∃ w1 w' rb, w.heap.size ≤ rb ∧ rb < w1.heap.size ∧ w1.heap.size ≤ w'.heap.size ∧ Below w.heap.size w w1 ∧ is w1 w' v ∧ But rb w' w2 := by
 refine (fieldRead l a n c f hf first cap w h (fun q w1 w' x => x = r.code ∧ w1.heap.size ≤ w'.heap.size ∧ (∀ k, k < w1.heap.size → k ≠ q → ¬ P k → w'.heap[k]? = w1.heap[k]?) ∧ w'.os = w1.os ∧ w'.tape = w1.tape ∧ w'.output = w1.output ∧ ∀ v, r = .ok v [] → is w1 w' v) ?_).mono ?_
 ·intro q w1 hb hq he;have hsb := hb.size;refine (hdo q w1 hb hq he).mono ?_;rintro e w' hr;refine ⟨hr.size, fun k h1 h2 h3 => hr.block k h2 h3 (fun h4 => by have := hp k h4; omega), r.code, ?_, rfl, hr.size, hr.block, hr.os, hr.tape, hr.output, fun v hv => (hr.good v [] hv).2.2⟩;cases hR : r with
  | err x => exact .inl ⟨hr.bad x hR, hs x hR⟩
  | ok v rest =>
   obtain ⟨h1, h2, _⟩ := hr.good v rest hR;exact .inr ⟨h1, rest, h2, rfl⟩
 ·rintro e w2 ⟨q, w1, w', x, rb, rfl, hb, hq1, hq2, hr1, hr2, hrq, ⟨rfl, hsz, hblk, ho, ht, hu, his⟩, hbut⟩;have hb1 := hb.size;have hsz2 := hbut.size;refine ⟨rfl, ⟨hbut.os.trans (ho.trans hb.os), hbut.tape.trans (ht.trans hb.tape), hbut.output.trans (hu.trans hb.output), by omega, fun k hk hne => ?_⟩, fun v hv => ⟨w1, w', rb, hr1, hr2, hsz, hb, his v hv, hbut⟩⟩;exact (hbut.block k (by omega) (by omega)).trans ((hblk k (by omega) (by omega) hne).trans (hb.block k hk))
def getBal (l : List UInt8) : Res (Nat × Nat) := (getNum 1099511627776 l).bind fun t r => (getNum 7 r).bind fun f r' => .ok (t, f) r'
theorem sane_bal (l : List UInt8) : (getBal l).sane := Res.sane_bind (sane_num _ _) fun _ _ => Res.sane_bind (sane_num _ _) fun _ _ => sane_ok _ _
theorem getBal_most {l r : List UInt8} {v : Nat × Nat} (h : getBal l = .ok v r) : v.1 ≤ 1099511627776 ∧ v.2 ≤ 7 := by
 unfold getBal at h;cases h1 : getNum 1099511627776 l with
 | err x => rw [h1] at h; cases h
 | ok t r1 =>
  rw [h1, Res.bind_ok] at h;cases h2 : getNum 7 r1 with
  | err x => rw [h2] at h; cases h
  | ok f r2 =>
   rw [h2, Res.bind_ok] at h;cases h
   exact ⟨getNum_most h1, getNum_most h2⟩
theorem infoBallot9 : (Tryz.prog.info? 80).map (·.size) = some 2 := by kernel_rfl
set_option maxRecDepth 100000 in
set_option maxHeartbeats 1000000 in
theorem raftReadBallot (q : Nat) (l : List UInt8) (w : World) (h : EyeAt w q l) :
  Calls Tryz.prog 92 #[.pointer (some ⟨q, 0, none⟩)] w fun e w' => EyeRead q (getBal l) w w' e fun v => e = .returned (.agg #[.int .i64 v.1, .int .i64 ((v.2 : Int) - 1)]) := by
 obtain ⟨N, hN⟩ : ∃ N, N = getBal l := ⟨_, rfl⟩
 rw [← hN];obtain ⟨W0, hW0⟩ : ∃ W0, W0 = w.alloc (.cells #[.int .i64 0, .int .i64 0] 80) := ⟨_, rfl⟩
 have hbW : Below w.heap.size w W0 := by rw [hW0]; exact (Below.refl _ _).alloc (Nat.le_refl _) _
 have HROW := Hh (show W0.heap[w.heap.size]? = some (.cells #[.int .i64 0, .int .i64 0] 80 (0, 0)) by rw [hW0]; exact heap_alloc_new w _);have hq := h.1;have HB0 := Hh (But.ofBelow hq hbW);have HE0 := Hh (h.below hbW);have HW0 := Hh hW0;have HN := Hh hN;have hs0 : w.heap.size < W0.heap.size := by rw [hW0]; simp
 clear hN h hW0 hbW;go_enter Tryz.func92, Tryz.ntmps92
 go_wp2_with fail;rw [← HW0.out];refine (eyeNum q 1099511627776 l _ HE0.out).mono ?_;rintro e w1 ⟨hb1, hr1⟩;cases hg1 : getNum 1099511627776 l with
 | err x =>
  rw [hg1] at hr1;obtain rfl : e = broke x := hr1;have hN : N = .err x := by rw [HN.out, getBal, hg1]; rfl
  subst hN;have HB := Hh (HB0.out.trans hb1);clear hg1 hb1;go_wp2;exact ⟨rfl, HB.out, rfl⟩
 | ok t r1 =>
  rw [hg1] at hr1;obtain ⟨rfl, he1⟩ := hr1;have hm1 := getNum_most hg1;have wt : IntKind.i64.wrap (t : Int) = t := IntWalk.i64_in _ (by omega);have HN1 := Hh (show N = (getNum 7 r1).bind fun f r' => .ok (t, f) r' by rw [HN.out, getBal, hg1]; rfl);have HB1 := Hh (HB0.out.trans hb1);have HE1 := Hh he1;have HROW1 := Hh ((hb1.block _ hs0 (by omega)).trans HROW.out);have hs1 := hb1.size;clear hg1 hb1 he1;go_wp2_with fail;refine (eyeNum q 7 r1 _ HE1.out).mono ?_;rintro e w2 ⟨hb2, hr2⟩;cases hg2 : getNum 7 r1 with
  | err x =>
   rw [hg2] at hr2;obtain rfl : e = broke x := hr2;have hN : N = .err x := by rw [HN1.out, hg2]; rfl
   subst hN;have HB := Hh (HB1.out.trans hb2);clear hg2 hb2;go_wp2;exact ⟨rfl, HB.out, rfl⟩
  | ok f r2 =>
   rw [hg2] at hr2;obtain ⟨rfl, he2⟩ := hr2;have hm2 := getNum_most hg2;have wf : IntKind.i64.wrap (f : Int) = f := IntWalk.i64_in _ (by omega);have wg : IntKind.i64.wrap ((f : Int) - 1) = (f : Int) - 1 := IntWalk.i64_in _ (by omega);have hN : N = .ok (t, f) r2 := by rw [HN1.out, hg2]; rfl
   subst hN;have HB2 := Hh (HB1.out.trans hb2);have HE2 := Hh he2;have HROW2 := Hh ((hb2.block _ (by omega) (by omega)).trans HROW1.out);have hs2 := hb2.size;clear hg2 hb2 he2;go_wp2_with (refine wpList_store_abs rfl 80 (.tmp 2) (.tmp 12) rfl w.heap.size _ rfl rfl 80 _ HROW2.out infoBallot9 rfl (by simp [Value.oneCell']) ?_; intro W9 hrow9 hoth9 hb9 hs9);refine bodyPost_ret (results_cell_row rfl _ _ w.heap.size 80 _ (0, 0) _ rfl hrow9 Tryz.underlying80 rfl infoBallot9) rfl ?_;exact ⟨HB2.out.andBelow hq hb9, rfl, HE2.out.keep (hb9.mono (by omega))⟩
end Go.Proofs.YtogcnfhmcpkdcaaGreat
namespace Go.Proofs.YtogcnfhmcpkdcaaGreat
open Go.RowKit
set_option linter.unusedVariables false
set_option linter.unusedSimpArgs false
def getHead (l : List UInt8) : Res ((Nat × Nat) × List UInt8 × List UInt8) := (getBal l).bind fun v r1 => (getText 2147483647 r1).bind fun b r2 => (getText 65536 r2).bind fun s r3 => .ok (v, b, s) r3
theorem sane_head (l : List UInt8) : (getHead l).sane := Res.sane_bind (sane_bal _) fun _ _ => Res.sane_bind (sane_text _ _) fun _ _ => Res.sane_bind (sane_text _ _) fun _ _ => sane_ok _ _
structure HdW (w : World) (q p rb bb : Nat) : Prop where
 hq : q < w.heap.size
 hp : p < w.heap.size
 hr : rb < w.heap.size
 hb : bb < w.heap.size
 qp : q ≠ p
 qr : q ≠ rb
 qb : q ≠ bb
 pr : p ≠ rb
 pb : p ≠ bb
 nrb : rb ≠ bb
 c : w.cell? ⟨rb, 0, none⟩ = some (.pointer (some ⟨p, 0, none⟩))
structure Hd (w : World) (q p bb : Nat) (W : World) (r : List UInt8) (R : PRaft) (M : RMem) (bv : Value) : Prop where
 os : W.os = w.os
 tape : W.tape = w.tape
 output : W.output = w.output
 size : w.heap.size ≤ W.heap.size
 blk : ∀ k, k < w.heap.size → k ≠ q → k ≠ p → k ≠ bb → W.heap[k]? = w.heap[k]?
 eye : EyeAt W q r
 row : W.heap[p]? = some (.cells (rcells R M).toArray 84 (0, 0))
 bx : W.heap[bb]? = some (.cells #[bv] 27 (0, 0))
section
variable {w W W' : World} {q p rb bb : Nat} {r r' : List UInt8} {R R' : PRaft} {M M' : RMem} {v v' : Value}
theorem Hd.but (h : Hd w q p bb W r R M v) (hw : HdW w q p rb bb) (hb : But q W W') (he : EyeAt W' q r') : Hd w q p bb W' r' R M v := by
 have hs := h.size;have := hw.hp;have := hw.hb;exact ⟨hb.os.trans h.os, hb.tape.trans h.tape, hb.output.trans h.output, Nat.le_trans hs hb.size, fun k h1 h2 h3 h4 => (hb.block k (by omega) h2).trans (h.blk k h1 h2 h3 h4), he, (hb.block _ (by omega) hw.qp.symm).trans h.row, (hb.block _ (by omega) hw.qb.symm).trans h.bx⟩
theorem Hd.below (h : Hd w q p bb W r R M v) (hw : HdW w q p rb bb) (hb : Below W.heap.size W W') : Hd w q p bb W' r R M v :=
 h.but hw (But.ofBelow (Nat.lt_of_lt_of_le hw.hq h.size) hb) (h.eye.below hb)
theorem Hd.box (h : Hd w q p bb W r R M v) (hw : HdW w q p rb bb) : W.cell? ⟨rb, 0, none⟩ = some (.pointer (some ⟨p, 0, none⟩)) :=
 (World.cell?_of_block (a := ⟨rb, 0, none⟩) (h.blk rb hw.hr hw.qr.symm hw.pr.symm hw.nrb)).trans hw.c
theorem Hd.c (h : Hd w q p bb W r R M v) {i : Nat} {u : Value} (hi : (rcells R M)[i]? = some u) : W.cell? ⟨p, i, none⟩ = some u := by
 rw [cell_of_row _ _ _ _ _ _ h.row, List.getElem?_toArray]; exact hi
theorem Hd.f (h : Hd w q p bb W r R M v) (i : Nat) : W.frozen? ⟨p, i, none⟩ = false := frozen_of_row _ _ _ _ _ h.row
theorem Hd.setp (h : Hd w q p bb W r R M v) (hw : HdW w q p rb bb) (i : Nat) (x u : Value) (hi : (rcells R M)[i]? = some u) (hu : ∀ c : Int, u ≠ .int .u8 c) (hc : (rcells R M).set i x = rcells R' M') : Hd w q p bb (W.setCell ⟨p, i, none⟩ x) r R' M' v := by
 have h9 := heap_setCell_same W p i _ _ x h.row;have ho : ∀ k, k ≠ p → (W.setCell ⟨p, i, none⟩ x).heap[k]? = W.heap[k]? := fun k hk => Below.heap_setCell _ _ _ k hk
 refine ⟨h.os, h.tape, h.output, by simpa using h.size, fun k h1 h2 h3 h4 => (ho k h3).trans (h.blk k h1 h2 h3 h4), EyeAt.setOther h.eye hw.qp.symm (h.c hi) hu x, ?_, (ho _ hw.pb.symm).trans h.bx⟩;rw [h9, ← hc]
 simp
theorem Hd.setb (h : Hd w q p bb W r R M v) (hw : HdW w q p rb bb) (hv : ∀ c : Int, v ≠ .int .u8 c) (x : Value) : Hd w q p bb (W.setCell ⟨bb, 0, none⟩ x) r R M x := by
 have h9 := heap_setCell_same W bb 0 _ _ x h.bx;have ho : ∀ k, k ≠ bb → (W.setCell ⟨bb, 0, none⟩ x).heap[k]? = W.heap[k]? := fun k hk => Below.heap_setCell _ _ _ k hk
 refine ⟨h.os, h.tape, h.output, by simpa using h.size, fun k h1 h2 h3 h4 => (ho k h4).trans (h.blk k h1 h2 h3 h4), EyeAt.setOther h.eye hw.qb.symm (cell_of_row W bb 0 _ _ _ h.bx) hv x, (ho _ hw.pb).trans h.row, ?_⟩;rw [h9]; rfl
theorem Hd.err (h : Hd w q p bb W r R M v) (hw : HdW w q p rb bb) (hb : But q W W') {x : Int} {α : Type} {is : α → Prop} : ReadsSet q (fun k => k = p ∨ k = bb) (.err x : Res α) w W' (broke x) is := by
 have hs := h.size;exact ⟨hb.os.trans h.os, hb.tape.trans h.tape, hb.output.trans h.output, Nat.le_trans hs hb.size, fun k h1 h2 h3 => (hb.block k (by omega) h2).trans (h.blk k h1 h2 (fun e => h3 (.inl e)) (fun e => h3 (.inr e))), fun _ h => by cases h; rfl, fun _ _ h => by cases h⟩
end
structure BoxS (rb p : Nat) (W : World) : Prop where
 c : W.cell? ⟨rb, 0, none⟩ = some (.pointer (some ⟨p, 0, none⟩))
set_option maxRecDepth 100000 in
set_option maxHeartbeats 2000000 in
theorem raftReadHead1 (q p rb bb : Nat) (R : PRaft) (M : RMem) (l : List UInt8) (w : World) (hw : HdW w q p rb bb) (h : Hd w q p bb w l R M (.slice none 0 0)) :
  Calls Tryz.prog 91 #[.pointer (some ⟨q, 0, none⟩), .pointer (some ⟨rb, 0, none⟩), .pointer (some ⟨bb, 0, none⟩)] w fun e w' => ReadsSet q (fun k => k = p ∨ k = bb) (getHead l) w w' e fun v =>
   ∃ ba bc sa sc, w'.heap[p]? = some (.cells (rcells { R with bt := v.1.1, bf := (v.1.2 : Int) - 1, state := v.2.2 } { M with sa := sa, sc := sc }).toArray 84 (0, 0)) ∧ w'.heap[bb]? = some (.cells #[.slice ba v.2.1.length bc] 27 (0, 0)) ∧
    w'.ownsRow w.heap.size 5 1 (.slice ba v.2.1.length bc) v.2.1.length (v.2.1.map bv) ∧ w'.ownsRow w.heap.size 5 1 (.slice sa v.2.2.length sc) v.2.2.length (v.2.2.map bv) := by
 obtain ⟨N, hN⟩ : ∃ N, N = getHead l := ⟨_, rfl⟩
 rw [← hN];have HN := Hh hN;have HW := Hh hw;have H0 := Hh h;clear hN hw h;go_enter Tryz.func91, Tryz.ntmps91
 go_wp2_with fail;refine OpR (S := BoxS rb p) ?_;have hdr : Below w.heap.size w w.drew := (Below.refl _ _).drew;have H1 := Hh (H0.out.below HW.out hdr);have hS0 : BoxS rb p w.drew := ⟨H1.out.box HW.out⟩
 refine hT 0 4 hS0 ?_;refine hT 1 5 hS0 ?_;clear hS0;refine Op1 2 ?_;go_simp;refine (raftReadBallot q l _ H1.out.eye).mono ?_;rintro e w2 ⟨hb2, hr2⟩;cases hg2 : getBal l with
 | err x =>
  rw [hg2] at hr2;obtain rfl : e = broke x := hr2;have hN : N = .err x := by rw [HN.out, getHead, hg2]; rfl
  subst hN;have HB := Hh hb2;clear hg2 hb2 hdr;go_wp2;exact ⟨rfl, H1.out.err HW.out HB.out⟩
 | ok v r1 =>
  rw [hg2] at hr2;obtain ⟨rfl, he2⟩ := hr2;obtain ⟨t, f⟩ := v;have HN2 := Hh (show N = (getText 2147483647 r1).bind fun b r2 => (getText 65536 r2).bind fun s r3 => .ok ((t, f), b, s) r3 by rw [HN.out, getHead, hg2]; rfl);have HS2 := Hh (show w.heap.size ≤ w2.heap.size from hb2.size);have H2 := Hh (H1.out.but HW.out hb2 he2);have hS2 : BoxS rb p w2 := ⟨H2.out.box HW.out⟩
  refine ⟨hS2, ?_⟩;clear hg2 hb2 he2 hdr;refine hT 3 7 hS2 ?_;refine hT 4 8 hS2 ?_;clear hS2;have c2 : w2.cell? ⟨p, 2, none⟩ = some (.int .i64 R.bt) := H2.out.c rfl;have c3 : w2.cell? ⟨p, 3, none⟩ = some (.int .i64 R.bf) := H2.out.c rfl;have f2 := H2.out.f 2;have f3 := H2.out.f 3;refine Op1 5 ?_;go_simp;obtain ⟨W3, hW3⟩ : ∃ W3, W3 = (w2.setCell ⟨p, 2, none⟩ (.int .i64 t)).setCell ⟨p, 3, none⟩ (.int .i64 ((f : Int) - 1)) := ⟨_, rfl⟩
  rw [← hW3];obtain ⟨R3, hR3⟩ : ∃ R3 : PRaft, R3 = { R with bt := t, bf := (f : Int) - 1 } := ⟨_, rfl⟩
  have H3 := Hh (show Hd w q p bb W3 r1 R3 M (.slice none 0 0) by
   rw [hW3, hR3];have h3 := H2.out.setp (R' := { R with bt := t }) (M' := M) HW.out 2 (.int .i64 t) (iz R.bt) rfl (by intro c e; cases e) (rcells_setHead (by omega) rfl rfl rfl rfl rfl);exact h3.setp (R' := { R with bt := t, bf := (f : Int) - 1 }) (M' := M) HW.out 3 (.int .i64 ((f : Int) - 1)) (iz R.bf) rfl (by intro c e; cases e) (rcells_setHead (by omega) rfl rfl rfl rfl rfl))
  have hs3 : w2.heap.size ≤ W3.heap.size := by rw [hW3]; simp
  have hS3 : BoxS rb p W3 := ⟨H3.out.box HW.out⟩
  have HR3 := Hh hR3;refine ⟨hS3, OpE ?_⟩;clear hW3 hR3 c2 c3 f2 f3 hS3;go_wp2_with fail;refine (eyeText q 2147483647 r1 _ H3.out.eye (by omega)).mono ?_;rintro e w4 ⟨hb4, hr4⟩;cases hg4 : getText 2147483647 r1 with
  | err x =>
   rw [hg4] at hr4;obtain rfl : e = broke x := hr4;have hN : N = .err x := by rw [HN2.out, hg4]; rfl
   subst hN;have HB := Hh hb4;clear hg4 hb4;go_wp2;exact ⟨rfl, H3.out.err HW.out HB.out⟩
  | ok b r2 =>
   rw [hg4] at hr4;obtain ⟨⟨ba, bc, rfl, -, ho4⟩, he4⟩ := hr4;have HN4 := Hh (show N = (getText 65536 r2).bind fun s r3 => .ok ((t, f), b, s) r3 by rw [HN2.out, hg4]; rfl);have H4 := Hh (H3.out.but HW.out hb4 he4);have HO4 := Hh (World.ownsRow.mono ho4 (show w.heap.size ≤ W3.heap.size from Nat.le_trans HS2.out hs3));have hs4 := hb4.size;have cb := cell_of_row w4 bb 0 _ _ _ H4.out.bx;have fb := frozen_of_row w4 bb 0 _ _ H4.out.bx;have H5 := Hh (H4.out.setb HW.out (by intro c e; cases e) (.slice ba b.length bc));obtain ⟨W5, hW5⟩ : ∃ W5, W5 = w4.setCell ⟨bb, 0, none⟩ (.slice ba b.length bc) := ⟨_, rfl⟩
   rw [← hW5] at H5;have hbb := HW.out.hb;have hpp := HW.out.hp;have hqq := HW.out.hq;have HO5 := Hh (show W5.ownsRow w.heap.size 5 1 (.slice ba b.length bc) b.length (b.map bv) by
    rw [hW5];exact own_mv9 HO4.out fun g hg => Below.heap_setCell _ _ _ g (by have := (own_lt HO4.out hg).1; show g ≠ bb; omega))
   have hs5 : w4.heap.size ≤ W5.heap.size := by rw [hW5]; simp
   have HW5 := Hh hW5;clear hg4 hb4 ho4 he4 hW5;go_wp2_with fail;rw [← HW5.out];clear cb fb;refine OpR (S := BoxS rb p) ?_;have hdr : Below W5.heap.size W5 W5.drew := (Below.refl _ _).drew;have H6 := Hh (H5.out.below HW.out hdr);have HO6 := Hh (own_below' HO5.out hdr);have hS0 : BoxS rb p W5.drew := ⟨H6.out.box HW.out⟩
   refine hT 0 11 hS0 ?_;refine hT 1 12 hS0 ?_;clear hS0;refine Op1 2 ?_;go_simp;refine (eyeText q 65536 r2 _ H6.out.eye (by omega)).mono ?_;rintro e w7 ⟨hb7, hr7⟩;cases hg7 : getText 65536 r2 with
   | err x =>
    rw [hg7] at hr7;obtain rfl : e = broke x := hr7;have hN : N = .err x := by rw [HN4.out, hg7]; rfl
    subst hN;have HB := Hh hb7;clear hg7 hb7 hdr;go_wp2;exact ⟨rfl, H6.out.err HW.out HB.out⟩
   | ok s r3 =>
    rw [hg7] at hr7;obtain ⟨⟨sa, sc, rfl, -, ho7⟩, he7⟩ := hr7;have hN : N = .ok ((t, f), b, s) r3 := by rw [HN4.out, hg7]; rfl
    subst hN;have H7 := Hh (H6.out.but HW.out hb7 he7);have HO7b := Hh (show w7.ownsRow w.heap.size 5 1 (.slice ba b.length bc) b.length (b.map bv) from own_mv9 HO6.out fun g hg => hb7.block g (own_lt HO6.out hg).2 (by have := (own_lt HO6.out hg).1; omega));have HO7s := Hh (World.ownsRow.mono ho7 (show w.heap.size ≤ W5.drew.heap.size from Nat.le_trans HS2.out (Nat.le_trans hs3 (Nat.le_trans hs4 hs5))));have hS7 : BoxS rb p w7 := ⟨H7.out.box HW.out⟩
    refine ⟨hS7, ?_⟩;clear hg7 hb7 ho7 he7 hdr;refine hT 3 14 hS7 ?_;refine hT 4 15 hS7 ?_;clear hS7;have c5 : w7.cell? ⟨p, 5, none⟩ = some (.slice M.sa R3.state.length M.sc) := H7.out.c rfl;have f5 := H7.out.f 5;refine Op1 5 ?_;refine wp_store_cell 27 (.tmp 15) (.tmp 13) rfl p 5 (.slice sa s.length sc) _ rfl rfl rfl (by kernel_rfl) c5 f5 ?_;obtain ⟨W8, hW8⟩ : ∃ W8, W8 = w7.setCell ⟨p, 5, none⟩ (.slice sa s.length sc) := ⟨_, rfl⟩
    rw [← hW8];have H8 := Hh (show Hd w q p bb W8 r3 { R3 with state := s } { M with sa := sa, sc := sc } (.slice ba b.length bc) by
     rw [hW8];exact H7.out.setp HW.out 5 (.slice sa s.length sc) (.slice M.sa R3.state.length M.sc) rfl (by intro c e; cases e) (rcells_setHead (by omega) rfl rfl rfl rfl rfl))
    have hmv : ∀ (v : Value) (n : Nat) (xs : List Value), w7.ownsRow w.heap.size 5 1 v n xs → W8.ownsRow w.heap.size 5 1 v n xs := fun v n xs h9 => by
     rw [hW8];exact own_mv9 h9 fun g hg => Below.heap_setCell _ _ _ g (by have := (own_lt h9 hg).1; show g ≠ p; omega)
    have HO8b := Hh (hmv _ _ _ HO7b.out);have HO8s := Hh (hmv _ _ _ HO7s.out);have hS8 : BoxS rb p W8 := ⟨H8.out.box HW.out⟩
    refine ⟨hS8, OpE ?_⟩;clear hS8 c5 f5 hW8 hmv;go_wp2;go_end0;refine ⟨H8.out.os, H8.out.tape, H8.out.output, H8.out.size, fun k h1 h2 h3 => H8.out.blk k h1 h2 (fun e => h3 (.inl e)) (fun e => h3 (.inr e)), (fun x h9 => by cases h9), (fun v' r' h9 => ?_)⟩;cases h9
    refine ⟨rfl, H8.out.eye.len, ba, bc, sa, sc, ?_, H8.out.bx, HO8b.out, HO8s.out⟩;have h9 := H8.out.row;rw [HR3.out] at h9;exact h9
end Go.Proofs.YtogcnfhmcpkdcaaGreat
namespace Go.Proofs.YtogcnfhmcpkdcaaGreat
open Go.RowKit
set_option linter.unusedVariables false
set_option linter.unusedSimpArgs false
structure Spoiled (p : Nat) (w w' : World) : Prop where
 os : w'.os = w.os
 tape : w'.tape = w.tape
 output : w'.output = w.output
 size : w.heap.size ≤ w'.heap.size
 block : ∀ k, k < w.heap.size → k ≠ p → w'.heap[k]? = w.heap[k]?
def headOut (R : PRaft) : Res ((Nat × Nat) × List UInt8 × List UInt8) → Option PRaft
 | .ok v rest => if rest = [] then (outL (getLine v.2.1)).2.map fun x => { R with bt := v.1.1, bf := (v.1.2 : Int) - 1, state := v.2.2, line := x } else none
 | .err _ => none
def PRaft.readHead (R : PRaft) (l : List UInt8) : Option PRaft := headOut R (getHead l)
theorem RfAt.headed {w w3 : World} {p : Nat} {R R1 : PRaft} {M M1 : RMem} (h : RfAt w p R M) (hsp : Spoiled p w w3) (hrow : w3.heap[p]? = some (.cells (rcells R1 M1).toArray 84 (0, 0)))
  (hs1 : Sev R1) (hM : M1 = { M with sa := M1.sa, sc := M1.sc }) (hn : R1.news = R.news) (ho : R1.out = R.out) (hst : ByAt w3 M1.sa M1.sc R1.state) {base lp lc : Nat} {la : Option Addr} {ms : List MItem} {x : PLine} (hln : LnAt w3 base lp x la lc ms) (hb : w.heap.size ≤ base) :
  RfAt (w3.setCell ⟨p, 4, none⟩ (.pointer (some ⟨lp, 0, none⟩))) p { R1 with line := x } { M1 with lb := lp, la := la, lc := lc, ms := ms } ∧ RTouch p M { M1 with lb := lp, la := la, lc := lc, ms := ms } w (w3.setCell ⟨p, 4, none⟩ (.pointer (some ⟨lp, 0, none⟩))) := by
 have hp := h.lt;have hsz := hsp.size;have hpb := hln.pb;obtain ⟨a1, a2, a3, a4, a5, a6, a7, a8⟩ := h.apart;have hoth : ∀ k, k ≠ p → (w3.setCell ⟨p, 4, none⟩ (.pointer (some ⟨lp, 0, none⟩))).heap[k]? = w3.heap[k]? := fun k hk => Below.heap_setCell _ _ _ k hk
 have hlt : ∀ {g cs}, w.heap[g]? = some cs → g < w.heap.size := fun h9 => (Array.getElem?_eq_some_iff.1 h9).1
 have hU : ∀ (k : Nat) (cs : Array Value) (fr : Nat × Nat), w3.heap[k]? = some (Obj.cells cs 5 fr) → (w3.setCell ⟨p, 4, none⟩ (.pointer (some ⟨lp, 0, none⟩))).heap[k]? = w3.heap[k]? := fun k cs fr hk => hoth k (fun e => by
  rw [e] at hk;obtain ⟨-, -, -, -, t5, -⟩ := types18;exact t5 (kind_eq hrow hk))
 have hla : ∀ k, la.map (·.block) = some k → base ≤ k := fun k hk => (own_lt hln.own (by rw [ownBlock_eq]; exact hk)).1
 have hnb : ∀ m ∈ M.ns, ByAt (w3.setCell ⟨p, 4, none⟩ (.pointer (some ⟨lp, 0, none⟩))) m.a m.c m.b := fun m hm =>
  OwnBs.grown (T := 5) (h.nb m hm) (fun k cs fr hk hc => by
   have hne : k ≠ p := fun e => h.notU8 hc (.inl e)
   exact (hoth k hne).trans (hsp.block k hk hne)) (by simpa using hsz)
 have hnw : ∀ g, M.na.map (·.block) = some g → (w3.setCell ⟨p, 4, none⟩ (.pointer (some ⟨lp, 0, none⟩))).heap[g]? = w.heap[g]? := fun g hg => by
  have hne : g ≠ p := fun e => a3 (by rw [← e]; exact hg)
  obtain ⟨cur, hc⟩ := own_kind h.nw hg;exact (hoth g hne).trans (hsp.block g (hlt hc) hne)
 have hou : ∀ g, M.oa.map (·.block) = some g → (w3.setCell ⟨p, 4, none⟩ (.pointer (some ⟨lp, 0, none⟩))).heap[g]? = w.heap[g]? := fun g hg => by
  have hne : g ≠ p := fun e => a4 (by rw [← e]; exact hg)
  obtain ⟨cur, hc⟩ := own_kind h.ou hg;exact (hoth g hne).trans (hsp.block g (hlt hc) hne)
 have hl2 : LnAt (w3.setCell ⟨p, 4, none⟩ (.pointer (some ⟨lp, 0, none⟩))) 0 lp x la lc ms :=
  LineAt.mono (LineAt.moved hln (by simp) (fun _ _ => hoth _ (by omega)) (fun g cur hg _ => hoth g (by have := hla g (by rw [← ownBlock_eq la ms.length lc]; exact hg); omega)) (fun k cs fr _ hk => hU k cs fr hk)) (Nat.zero_le _)
 have hst2 : ByAt (w3.setCell ⟨p, 4, none⟩ (.pointer (some ⟨lp, 0, none⟩))) M1.sa M1.sc R1.state := OwnBs.grown (T := 5) hst (fun k cs fr _ hk => hU k cs fr hk) (by simp);have h9 := heap_setCell_same w3 p 4 _ _ (.pointer (some ⟨lp, 0, none⟩)) hrow;obtain ⟨sa, hsa⟩ : ∃ sa, sa = M1.sa := ⟨_, rfl⟩
 obtain ⟨sc, hsc⟩ : ∃ sc, sc = M1.sc := ⟨_, rfl⟩
 rw [← hsa, ← hsc] at hM hst2;subst hM;clear hsa hsc;have hT : RTouch p M { M with sa := sa, sc := sc, lb := lp, la := la, lc := lc, ms := ms } w (w3.setCell ⟨p, 4, none⟩ (.pointer (some ⟨lp, 0, none⟩))) := by
  refine ⟨hsp.os, hsp.tape, hsp.output, by simpa using hsz, fun k hk hno => ?_, fun k hk => ?_⟩
  ·have hne : k ≠ p := fun e => hno (.inl e)
   exact (hoth k hne).trans (hsp.block k hk hne)
  ·rcases hk with e | e | e | e | e
   ·exact .inl (.inl e)
   ·right; have : k = lp := e; omega
   ·right; have := hla k e; omega
   ·exact .inl (.inr (.inr (.inr (.inl e))))
   ·exact .inl (.inr (.inr (.inr (.inr e))))
 refine ⟨⟨hs1.cp rfl rfl rfl, ?_, hl2, hst2, own_mv9 h.nw fun g hg => hnw g (by rw [ownBlock_eq] at hg; exact hg), hnb, by rw [hn]; exact h.nq, own_mv9 h.ou fun g hg => hou g (by rw [ownBlock_eq] at hg; exact hg), by rw [ho]; exact h.oq, by rw [ho]; exact h.postKeep hT rfl rfl⟩, hT⟩;rw [h9];rw [← rcells_setHead (R := R1) (R' := { R1 with line := x }) (M := { M with sa := sa, sc := sc }) (M' := { M with sa := sa, sc := sc, lb := lp, la := la, lc := lc, ms := ms }) (j := 4) (x := .pointer (some ⟨lp, 0, none⟩)) (by omega) rfl rfl rfl rfl rfl]
 simp
theorem getHead_most {l r : List UInt8} {v : (Nat × Nat) × List UInt8 × List UInt8} (h : getHead l = .ok v r) : v.1.1 ≤ 1099511627776 ∧ v.1.2 ≤ 7 ∧ v.2.1.length ≤ 2147483647 ∧ v.2.2.length ≤ 65536 := by
 unfold getHead at h;cases h1 : getBal l with
 | err x => rw [h1] at h; cases h
 | ok t r1 =>
  rw [h1, Res.bind_ok] at h;cases h2 : getText 2147483647 r1 with
  | err x => rw [h2] at h; cases h
  | ok b r2 =>
   rw [h2, Res.bind_ok] at h;cases h3 : getText 65536 r2 with
   | err x => rw [h3] at h; cases h
   | ok s r3 =>
    rw [h3, Res.bind_ok] at h;cases h
    exact ⟨(getBal_most h1).1, (getBal_most h1).2, (text_put h2).2, (text_put h3).2⟩
set_option maxRecDepth 100000 in
set_option maxHeartbeats 2000000 in
theorem raftReadHead (p : Nat) (R : PRaft) (M : RMem) (l : List UInt8) (a : Option Addr) (c : Nat) (w : World) (hl : BsAt w w.heap.size a l.length c l) (h : RfAt w p R M) :
  Calls Tryz.prog 56 #[.pointer (some ⟨p, 0, none⟩), .slice a l.length c] w fun e w' => match R.readHead l with
   | none => e = .returned (.bool false) ∧ Spoiled p w w'
   | some R' => e = .returned (.bool true) ∧ ∃ M', RfAt w' p R' M' ∧ RTouch p M M' w w' := by
 obtain ⟨N, hN⟩ : ∃ N, N = getHead l := ⟨_, rfl⟩
 have hsane := sane_head l;rw [← hN] at hsane;obtain ⟨O, hO⟩ : ∃ O, O = R.readHead l := ⟨_, rfl⟩
 have HOO := Hh (show O = headOut R N by rw [hO, hN]; rfl);rw [← hO];have HN := Hh hN;obtain ⟨W1, hW1⟩ : ∃ W1, W1 = (w.alloc (.cells #[.pointer (some ⟨p, 0, none⟩)] 25)).alloc (.cells #[.slice none 0 0] 27) := ⟨_, rfl⟩
 have hbW : Below w.heap.size w W1 := by rw [hW1]; exact ((Below.refl _ _).alloc (Nat.le_refl _) _).alloc (by simp) _
 have hs1 : W1.heap.size = w.heap.size + 2 := by rw [hW1]; simp
 have hr1 : W1.heap[w.heap.size]? = some (.cells #[.pointer (some ⟨p, 0, none⟩)] 25 (0, 0)) := by
  rw [hW1];exact (((Below.refl _ _).alloc (Nat.le_refl (w.alloc (.cells #[.pointer (some ⟨p, 0, none⟩)] 25)).heap.size) _).block _ (by simp)).trans (heap_alloc_new w _)
 have hb1 : W1.heap[w.heap.size + 1]? = some (.cells #[.slice none 0 0] 27 (0, 0)) := by
  rw [hW1];have h9 := heap_alloc_new (w.alloc (.cells #[.pointer (some ⟨p, 0, none⟩)] 25)) (.cells #[.slice none 0 0] 27);simpa using h9
 have hpl := h.lt;have HH := Hh h;have HR1 := Hh (h.below hbW);have HBW := Hh hbW;have HRB := Hh hr1;have HBB := Hh hb1;have HL := Hh ((hl.below hbW (Nat.le_refl _)).mono hbW.size);have HW1 := Hh hW1;have HSN := Hh hsane;clear hN hsane hO hW1 hbW hr1 hb1 h hl;go_enter Tryz.func56, Tryz.ntmps56
 go_wp2_with fail;rw [← HW1.out];refine (fieldReadSet N HSN.out l a l.length c 91 (enterOf Tryz.func91 (by kernel_rfl) rfl) #[] #[.pointer (some ⟨w.heap.size, 0, none⟩), .pointer (some ⟨w.heap.size + 1, 0, none⟩)] (fun k => k = p ∨ k = w.heap.size + 1) W1 (fun k hk => by omega) HL.out
  (fun w1 w' v => ∃ ba bc sa sc, w'.heap[p]? = some (.cells (rcells { R with bt := v.1.1, bf := (v.1.2 : Int) - 1, state := v.2.2 } { M with sa := sa, sc := sc }).toArray 84 (0, 0)) ∧ w'.heap[w.heap.size + 1]? = some (.cells #[.slice ba v.2.1.length bc] 27 (0, 0)) ∧
    w'.ownsRow w1.heap.size 5 1 (.slice ba v.2.1.length bc) v.2.1.length (v.2.1.map bv) ∧ w'.ownsRow w1.heap.size 5 1 (.slice sa v.2.2.length sc) v.2.2.length (v.2.2.map bv)) ?_).mono ?_
 ·intro q w1 hb hq he;have hs := hb.size;show Calls _ 91 #[.pointer (some ⟨q, 0, none⟩), .pointer (some ⟨w.heap.size, 0, none⟩), .pointer (some ⟨w.heap.size + 1, 0, none⟩)] w1 _;rw [HN.out];exact raftReadHead1 q p w.heap.size (w.heap.size + 1) R M l w1 ⟨he.1, by omega, by omega, by omega, by omega, by omega, by omega, by omega, by omega, by omega, cell_of_row w1 w.heap.size 0 _ _ _ ((hb.block _ (by omega)).trans HRB.out)⟩
   ⟨rfl, rfl, rfl, Nat.le_refl _, fun _ _ _ _ _ => rfl, he, (hb.block _ (by omega)).trans HR1.out.row, (hb.block _ (by omega)).trans HBB.out⟩
 ·rintro e w2 ⟨rfl, ⟨ho, ht, hu, hz, hbk⟩, hok⟩;have HSP := Hh (show Spoiled p w w2 from ⟨ho.trans HBW.out.os, ht.trans HBW.out.tape, hu.trans HBW.out.output, by omega, fun k hk hne => (hbk k (by omega) (fun h9 => by omega)).trans (HBW.out.block k hk)⟩);have HOK := Hh hok;have HRB2 := Hh ((hbk w.heap.size (by omega) (fun h9 => by omega)).trans HRB.out);clear ho ht hu hbk hok;by_cases hcode : ∃ v, N = .ok v []
  ·obtain ⟨v, hv⟩ := hcode;obtain ⟨w1, w', rb, k1, k2, k3, k4, ⟨ba, bc, sa, sc, r1, r2, r3, r4⟩, k5⟩ := HOK.out v hv;have hk4 := k4.size;have hmost := getHead_most (l := l) (r := []) (v := v) (by rw [← HN.out]; exact hv);have t1 : (N.code != 0) = false := by rw [hv]; rfl
   have HROW := Hh ((k5.block p (by omega) (by omega)).trans r1);have HBX := Hh ((k5.block (w.heap.size + 1) (by omega) (by omega)).trans r2);have hob : w2.ownsRow w1.heap.size 5 1 (.slice ba v.2.1.length bc) v.2.1.length (v.2.1.map bv) := own_mv9 r3 fun g hg => k5.block g (own_lt r3 hg).2 (by have := (own_lt r3 hg).1; omega)
   have hos : w2.ownsRow w1.heap.size 5 1 (.slice sa v.2.2.length sc) v.2.2.length (v.2.2.map bv) := own_mv9 r4 fun g hg => k5.block g (own_lt r4 hg).2 (by have := (own_lt r4 hg).1; omega)
   have HBS := Hh (show BsAt w2 w2.heap.size ba v.2.1.length bc v.2.1 from (OwnBs.of_own (t := 0) (n := v.2.1.length) hob (by omega)).1);have HST := Hh (show ByAt w2 sa sc v.2.2 from OwnBs.of_own (n := v.2.2.length) hos (by omega));have HOV := Hh (show O = (outL (getLine v.2.1)).2.map fun x => { R with bt := v.1.1, bf := (v.1.2 : Int) - 1, state := v.2.2, line := x } by rw [HOO.out, hv]; rfl);have hk5 := k5.size;have cb := cell_of_row w2 (w.heap.size + 1) 0 _ _ _ HBX.out;clear hv k4 k5 r1 r2 r3 r4 hob hos;go_wp2_with fail;refine (lineRead v.2.1 ba v.2.1.length bc _ HBS.out).mono ?_;rintro e w3 ⟨hb3, hm3⟩;have hs3 := hb3.size;have HSP3 := Hh (show Spoiled p w w3 from ⟨hb3.os.trans HSP.out.os, hb3.tape.trans HSP.out.tape, hb3.output.trans HSP.out.output, Nat.le_trans HSP.out.size hs3, fun k hk hne => (hb3.block k (by have := HSP.out.size; omega)).trans (HSP.out.block k hk hne)⟩);have HST3 := Hh (HST.out.below hb3);have HROW3 := Hh ((hb3.block p (by omega)).trans HROW.out);have cr : w3.cell? ⟨w.heap.size, 0, none⟩ = some (.pointer (some ⟨p, 0, none⟩)) := cell_of_row w3 _ 0 _ _ _ ((hb3.block _ (by omega)).trans HRB2.out);have c4 : w3.cell? ⟨p, 4, none⟩ = some (.pointer (some ⟨M.lb, 0, none⟩)) := by rw [cell_of_row _ _ _ _ _ _ HROW3.out]; rfl
   have f4 : w3.frozen? ⟨p, 4, none⟩ = false := frozen_of_row _ _ _ _ _ HROW3.out;obtain ⟨L, hL⟩ : ∃ L, L = outL (getLine v.2.1) := ⟨_, rfl⟩
   rw [← hL] at hm3;have HLL := Hh hL;clear cb;obtain ⟨E, o⟩ := L;cases o with
   | none =>
    obtain rfl : e = .returned (.tuple #[.pointer none, .int .i64 E]) := hm3;have hE := outL_none hL.symm;have tE : (E == 0) = false := by simpa using hE
    have hON : O = none := by rw [HOV.out, ← HLL.out]; rfl
    subst hON;clear hb3 hL hE;go_wp2;go_ret;have h9 := HSP3.out;exact ⟨rfl, h9.os, h9.tape, h9.output, by simpa using h9.size, fun k hk hne => (Below.heap_setCell _ _ _ k (by show k ≠ p; exact hne)).trans (h9.block k hk hne)⟩
   | some x =>
    obtain ⟨lp, la, lc, ms, rfl, hln⟩ := hm3;obtain ⟨rfl, -, -⟩ := outL_some hL.symm;have HLN := Hh hln;have hOS : O = some { R with bt := v.1.1, bf := (v.1.2 : Int) - 1, state := v.2.2, line := x } := by rw [HOV.out, ← HLL.out]; rfl
    subst hOS;have HB3 := Hh hb3;clear hb3 hln hL;go_wp2;go_ret;exact ⟨rfl, _, HH.out.headed (R1 := { R with bt := v.1.1, bf := (v.1.2 : Int) - 1, state := v.2.2 }) (M1 := { M with sa := sa, sc := sc }) HSP3.out HROW3.out (HH.out.sv.cp rfl rfl rfl) rfl rfl rfl HST3.out HLN.out (Nat.le_trans (by omega) HSP.out.size)⟩
  ·have hne : N.code ≠ 0 := by
    cases hR : N with
    | err x => exact HSN.out x hR
    | ok v rest =>
     simp only [Res.code];split
     ·rename_i h9; exact absurd ⟨v, by rw [hR, h9]⟩ hcode
     ·decide
   have t1 : (N.code != 0) = true := by simpa using hne
   have hON : O = none := by
    rw [HOO.out];cases hR : N with
    | err x => rfl
    | ok v rest =>
     simp only [headOut];rw [if_neg (fun h9 => hcode ⟨v, by rw [hR, h9]⟩)]
   subst hON;clear hcode hne;go_wp2;go_ret;exact ⟨rfl, HSP.out⟩
end Go.Proofs.YtogcnfhmcpkdcaaGreat
