/-
  Contract of the closure of line.Read.
  Contract of the closure of line.Read: the walk.
  Contract of line.Read.
-/
import Derived.Test.YtogcnfhmcpkdcaaGreatLine2
import Derived.Test.YtogcnfhmcpkdcaaGreatReadM
import Derived.Test.YtogcnfhmcpkdcaaGreatFieldM
namespace Go.Proofs.YtogcnfhmcpkdcaaGreat
open Go.RowKit
set_option linter.unusedVariables false
set_option linter.unusedSimpArgs false
structure LnOwn (N lb : Nat) (W : World) (v : PLine) (la : Option Addr) (lc : Nat) (ms : List MItem) : Prop where
 row : W.heap[lb]? = some (.cells #[.int .i64 v.base, .int .i64 v.term, .slice la ms.length lc] 105 (0, 0))
 own : W.ownsRow N 40 2 (.slice la ms.length lc) ms.length (cellsM ms)
 its : ms.map MItem.it = v.l
 bs : ∀ m ∈ ms, m.n ≤ 8192 ∧ W.ownsRow N 5 1 (.slice m.a m.n m.c) m.n (m.b.map bv)
theorem LnOwn.moved {N lb : Nat} {W W' : World} {v : PLine} {la : Option Addr} {lc : Nat} {ms : List MItem} (h : LnOwn N lb W v la lc ms) (hlb : W'.heap[lb]? = W.heap[lb]?) (hk : ∀ k, N ≤ k → k < W.heap.size → W'.heap[k]? = W.heap[k]?) : LnOwn N lb W' v la lc ms :=
 ⟨hlb.trans h.row, own_moved h.own fun g cur hg _ => hk g (own_lt h.own hg).1 (own_lt h.own hg).2, h.its, fun m hm => ⟨(h.bs m hm).1, own_moved (h.bs m hm).2 fun g cur hg _ => hk g (own_lt (h.bs m hm).2 hg).1 (own_lt (h.bs m hm).2 hg).2⟩⟩
theorem LnOwn.lnAt {N lb : Nat} {W : World} {v : PLine} {la : Option Addr} {lc : Nat} {ms : List MItem} (h : LnOwn N lb W v la lc ms) (hN : lb ≤ N) : LnAt W lb lb v la lc ms :=
 ⟨h.row, World.ownsRow.mono h.own hN, h.its, fun m hm => by
  obtain ⟨h1, h2⟩ := h.bs m hm;exact OwnBs.of_own (t := m.t) h2 (by omega), Nat.le_refl _⟩
structure Cl (w : World) (q lb pl : Nat) (W : World) (r : List UInt8) (v : PLine) (la : Option Addr) (lc : Nat) (ms : List MItem) : Prop where
 os : W.os = w.os
 tape : W.tape = w.tape
 output : W.output = w.output
 size : w.heap.size ≤ W.heap.size
 blk : ∀ k, k < w.heap.size → k ≠ q → k ≠ lb → W.heap[k]? = w.heap[k]?
 eye : EyeAt W q r
 ln : LnOwn w.heap.size lb W v la lc ms
structure Where (w : World) (q lb pl : Nat) : Prop where
 hq : q < w.heap.size
 hlb : lb < w.heap.size
 hpl : pl < w.heap.size
 lq : lb ≠ q
 pq : pl ≠ q
 pb : pl ≠ lb
 cell : w.cell? ⟨pl, 0, none⟩ = some (.pointer (some ⟨lb, 0, none⟩))
section
variable {w : World} {q lb pl : Nat} {W : World} {r : List UInt8} {v : PLine} {la : Option Addr} {lc : Nat} {ms : List MItem}
theorem Cl.cell (h : Cl w q lb pl W r v la lc ms) (hw : Where w q lb pl) : W.cell? ⟨pl, 0, none⟩ = some (.pointer (some ⟨lb, 0, none⟩)) :=
 (World.cell?_of_block (a := ⟨pl, 0, none⟩) (h.blk pl hw.hpl hw.pq hw.pb)).trans hw.cell
theorem Cl.but (h : Cl w q lb pl W r v la lc ms) (hw : Where w q lb pl) {W' : World} (hb : But q W W') {r' : List UInt8} (he : EyeAt W' q r') : Cl w q lb pl W' r' v la lc ms := by
 have h1 := hw.hq;have h2 := hw.hlb;have h3 := h.size;exact ⟨hb.os.trans h.os, hb.tape.trans h.tape, hb.output.trans h.output, Nat.le_trans h.size hb.size, fun k hk hkq hkl => (hb.block k (by omega) hkq).trans (h.blk k hk hkq hkl), he, h.ln.moved (hb.block lb (by omega) hw.lq) fun k hN hk => hb.block k hk (by omega)⟩
theorem Cl.below (h : Cl w q lb pl W r v la lc ms) (hw : Where w q lb pl) {W' : World} (hb : Below W.heap.size W W') : Cl w q lb pl W' r v la lc ms :=
 h.but hw (But.ofBelow (Nat.lt_of_lt_of_le hw.hq h.size) hb) (h.eye.below hb)
theorem Cl.turn (h : Cl w q lb pl W r v la lc ms) (hw : Where w q lb pl) {W' : World} (os : W'.os = W.os) (tape : W'.tape = W.tape) (output : W'.output = W.output) (size : W.heap.size ≤ W'.heap.size) (hk : ∀ k, k < w.heap.size → k ≠ lb → W'.heap[k]? = W.heap[k]?)
  (hq : EyeAt W' q r) {v' : PLine} {la' : Option Addr} {lc' : Nat} {ms' : List MItem} (hl : LnOwn w.heap.size lb W' v' la' lc' ms') : Cl w q lb pl W' r v' la' lc' ms' :=
 ⟨os.trans h.os, tape.trans h.tape, output.trans h.output, Nat.le_trans h.size size, fun k h1 h2 h3 => (hk k h1 h3).trans (h.blk k h1 h2 h3), hq, hl⟩
theorem Cl.err (h : Cl w q lb pl W r v la lc ms) (hw : Where w q lb pl) {W' : World} (hb : But q W W') {x : Int} {α : Type} {is : α → Prop} : ReadsTo q lb (.err x : Res α) w W' (broke x) is := by
 have h1 := hw.hq;have h3 := h.size;exact .of_err (hb.os.trans h.os) (hb.tape.trans h.tape) (hb.output.trans h.output) (Nat.le_trans h.size hb.size) fun k hk hkq hkl => (hb.block k (by omega) hkq).trans (h.blk k hk hkq hkl)
theorem Cl.lcells (h : Cl w q lb pl W r v la lc ms) : W.cell? ⟨lb, 0, none⟩ = some (.int .i64 v.base) ∧ W.cell? ⟨lb, 1, none⟩ = some (.int .i64 v.term) ∧ W.cell? ⟨lb, 2, none⟩ = some (.slice la ms.length lc) ∧ ∀ o, W.frozen? ⟨lb, o, none⟩ = false :=
 ⟨cell_of_row W lb 0 _ _ _ h.ln.row, cell_of_row W lb 1 _ _ _ h.ln.row, cell_of_row W lb 2 _ _ _ h.ln.row, fun o => frozen_of_row _ _ _ _ _ h.ln.row⟩
end
theorem EyeAt.far {W W' : World} {q : Nat} {r : List UInt8} (h : EyeAt W q r) {g : Nat} (hs : W.heap.size ≤ W'.heap.size) (hk : ∀ k, k < W.heap.size → k ≠ g → W'.heap[k]? = W.heap[k]?) (hgq : g ≠ q)
  {i j : Int} {a : Option Addr} {n c : Nat} {T : TypeId} (hrow : W.heap[g]? = some (.cells #[.int .i64 i, .int .i64 j, .slice a n c] T (0, 0))) : EyeAt W' q r := by
 obtain ⟨hlt, a, n, c, h1, h2, h3⟩ := h;have hq := hk q hlt (fun e => hgq e.symm);refine ⟨by omega, a, n, c, (World.cell?_of_block (a := ⟨q, 0, none⟩) hq).trans h1, (World.frozen?_of_block (a := ⟨q, 0, none⟩) hq).trans h2, h3.hlen, h3.hle, h3.hmax, h3.hnil, h3.hbig, fun hp => ?_⟩;obtain ⟨b, o, e, hb, hc⟩ := h3.hat hp;have hbg : b ≠ g := by
  intro e2;have h0 := hc 0 hp;rw [e2, cell_of_row _ _ _ _ _ _ hrow] at h0;cases hr0 : r with
  | nil => rw [hr0] at h3; have := h3.hlen; simp at this; omega
  | cons z r1 =>
   rw [hr0] at h0
   match o, h0 with
   | 0, h0 => simp [bv] at h0
   | 1, h0 => simp [bv] at h0
   | 2, h0 => simp [bv] at h0
   | k + 3, h0 => simp at h0
 exact ⟨b, o, e, hb, fun i hi => (World.cell?_of_block (a := ⟨b, o + i, none⟩) (hk b (by omega) hbg)).trans (hc i hi)⟩
end Go.Proofs.YtogcnfhmcpkdcaaGreat
namespace Go.Proofs.YtogcnfhmcpkdcaaGreat
open Go.RowKit
set_option linter.unusedVariables false
set_option linter.unusedSimpArgs false
theorem infoInt1 : (Tryz.prog.info? 3).map (·.size) = some 1 := by kernel_rfl
structure R5S (pl lb bx : Nat) (z : Nat) (v : Value) (W : World) : Prop where
 g0 : W.cell? ⟨pl, 0, none⟩ = some (.pointer (some ⟨lb, 0, none⟩))
 k0 : W.cell? ⟨bx, 0, none⟩ = some (.int .i64 z)
 k1 : W.cell? ⟨bx, 1, none⟩ = some v
theorem R5S.keep {pl lb bx : Nat} {z : Nat} {v : Value} {W W' : World} (h : R5S pl lb bx z v W) {N : Nat} (hb : Below N W W') (h1 : pl < N) (h3 : bx < N) : R5S pl lb bx z v W' :=
 ⟨(hb.cell (p := ⟨pl, _, none⟩) h1).trans h.g0, (hb.cell (p := ⟨bx, _, none⟩) h3).trans h.k0, (hb.cell (p := ⟨bx, _, none⟩) h3).trans h.k1⟩
theorem way1 {A1 : Type} {G : A1 → Prop} {P : Prop} (F : A1 → Prop) (main : (∀ x1, F x1 → G x1) → P) (key : ∀ x1, F x1 → G x1) : P := main key
structure PlS (pl lb : Nat) (W : World) : Prop where
 g0 : W.cell? ⟨pl, 0, none⟩ = some (.pointer (some ⟨lb, 0, none⟩))
theorem Cl.rebase {w : World} {q lb pl : Nat} {W : World} {r : List UInt8} {v : PLine} {la : Option Addr} {lc : Nat} {ms : List MItem} (h : Cl w q lb pl W r v la lc ms) (hw : Where w q lb pl) (b t : Int) :
  Cl w q lb pl ((W.setCell ⟨lb, 0, none⟩ (.int .i64 b)).setCell ⟨lb, 1, none⟩ (.int .i64 t)) r ⟨b, t, v.l⟩ la lc ms := by
 have hoth : ∀ k, k ≠ lb → ((W.setCell ⟨lb, 0, none⟩ (.int .i64 b)).setCell ⟨lb, 1, none⟩ (.int .i64 t)).heap[k]? = W.heap[k]? := fun k hk => (Below.heap_setCell _ _ _ k hk).trans (Below.heap_setCell _ _ _ k hk)
 have h9 := heap_setCell_same W lb 0 _ _ (.int .i64 b) h.ln.row;have h10 := heap_setCell_same _ lb 1 _ _ (.int .i64 t) h9;have hs := h.size;have hl := hw.hlb;refine h.turn (W' := (W.setCell ⟨lb, 0, none⟩ (.int .i64 b)).setCell ⟨lb, 1, none⟩ (.int .i64 t)) hw rfl rfl rfl (by simp) (fun k _ hk => hoth k hk) (h.eye.far (by simp) (fun k _ hk => hoth k hk) hw.lq h.ln.row) ⟨by rw [h10]; rfl, own_moved h.ln.own fun g cur hg _ => hoth g ?_, h.ln.its, fun m hm => ⟨(h.ln.bs m hm).1, own_moved (h.ln.bs m hm).2 fun g cur hg _ => hoth g ?_⟩⟩
 ·have := (own_lt h.ln.own hg).1; omega
 ·have := (own_lt (h.ln.bs m hm).2 hg).1; omega
set_option maxRecDepth 100000 in
set_option maxHeartbeats 1000000 in
theorem lineRead1 (q lb pl : Nat) (l : List UInt8) (w : World) (h : EyeAt w q l) (hw : Where w q lb pl) (hlb : w.heap[lb]? = some (.cells #[.int .i64 0, .int .i64 0, .slice none 0 0] 105 (0, 0))) :
  Calls Tryz.prog 117 #[.pointer (some ⟨q, 0, none⟩), .pointer (some ⟨pl, 0, none⟩)] w fun e w' => ReadsTo q lb (getLine l) w w' e (fun v => ∃ la lc ms, LnOwn w.heap.size lb w' v la lc ms) := by
 obtain ⟨i0, hi, hz0, hz1, hz2⟩ := info_parts infoItem3;obtain ⟨N, hN⟩ : ∃ N, N = getLine l := ⟨_, rfl⟩
 rw [← hN];have HN0 := Hh hN;have HC0 := Hh (show Cl w q lb pl w l ⟨0, 0, []⟩ none 0 [] from ⟨rfl, rfl, rfl, Nat.le_refl _, fun _ _ _ _ => rfl, h, ⟨hlb, ⟨rfl, .inl ⟨rfl, rfl⟩⟩, rfl, by simp⟩⟩);have hq := hw.hq;have hl := hw.hlb;have hlq := hw.lq;have HW := Hh hw;clear hN h hlb hw;go_enter Tryz.func117, Tryz.ntmps117
 go_wp2_with fail;refine OpR (S := PlS pl lb) ?_;have hdr : Below w.heap.size w w.drew := (Below.refl _ _).drew;have HC1 := Hh (HC0.out.below HW.out hdr);have hS1 : PlS pl lb w.drew := ⟨HC1.out.cell HW.out⟩
 clear hdr;refine hT 0 4 hS1 ?_;refine hT 1 5 hS1 ?_;refine hT 2 6 hS1 ?_;refine hT 5 9 hS1 ?_;clear hS1;refine Op1 3 ?_;go_simp;refine (eyeNum q 1099511627776 _ _ HC1.out.eye).mono ?_;rintro e w1 ⟨hb1, hr1⟩;cases hg1 : getNum 1099511627776 l with
 | err x =>
  rw [hg1] at hr1;obtain rfl : e = broke x := hr1;have hN : N = .err x := by rw [HN0.out, getLine, hg1]; rfl
  subst hN;have HB := Hh hb1;clear hg1 hb1;go_wp2;exact ⟨rfl, HC1.out.err HW.out HB.out⟩
 | ok b r1 =>
  rw [hg1] at hr1;obtain ⟨rfl, heye1⟩ := hr1;have hb9 := getNum_most hg1;have wb : IntKind.i64.wrap (b : Int) = b := IntWalk.i64_in _ (by omega);have hN : N = (getNum 1099511627776 r1).bind fun t r2 => (getNum 4096 r2).bind fun n r3 => (getItems n r3).bind fun l r4 => .ok ⟨b, t, l⟩ r4 := by rw [HN0.out, getLine, hg1]; rfl
  have HN1 := Hh hN;have HC2 := Hh (HC1.out.but HW.out hb1 heye1);have hS2 : PlS pl lb w1 := ⟨HC2.out.cell HW.out⟩
  refine ⟨hS2, ?_⟩;clear hN hg1 hb1 heye1;refine hT 4 8 hS2 ?_;clear hS2;refine Op1 6 ?_;go_simp;refine (eyeNum q 1099511627776 _ _ HC2.out.eye).mono ?_;rintro e w2 ⟨hb2, hr2⟩;cases hg2 : getNum 1099511627776 r1 with
  | err x =>
   rw [hg2] at hr2;obtain rfl : e = broke x := hr2;have hN : N = .err x := by rw [HN1.out, hg2]; rfl
   subst hN;have HB := Hh hb2;clear hg2 hb2;go_wp2;exact ⟨rfl, HC2.out.err HW.out HB.out⟩
  | ok t r2 =>
   rw [hg2] at hr2;obtain ⟨rfl, heye2⟩ := hr2;have ht9 := getNum_most hg2;have wt : IntKind.i64.wrap (t : Int) = t := IntWalk.i64_in _ (by omega);have hN : N = (getNum 4096 r2).bind fun n r3 => (getItems n r3).bind fun l r4 => .ok ⟨b, t, l⟩ r4 := by rw [HN1.out, hg2]; rfl
   have HN2 := Hh hN;have HC3 := Hh (HC2.out.but HW.out hb2 heye2);have hS3 : PlS pl lb w2 := ⟨HC3.out.cell HW.out⟩
   refine ⟨hS3, ?_⟩;clear hN hg2 hb2 heye2;refine hT 7 11 hS3 ?_;refine hT 8 12 hS3 ?_;refine hT 9 13 hS3 ?_;have p0 := HC3.out.lcells.1;have f0 := HC3.out.lcells.2.2.2 0;refine Op1 10 ?_;refine wp_store_cell 3 (.tmp 13) (.tmp 8) rfl lb 0 (.int .i64 b) _ rfl rfl rfl infoInt1 p0 f0 ?_;have hS4 : PlS pl lb (w2.setCell ⟨lb, 0, none⟩ (.int .i64 b)) := ⟨(World.cell?_setCell_other _ _ _ _ (by intro e; injection e with e1; first | exact HW.out.pb e1 | exact HW.out.pb e1.symm)).trans hS3.g0⟩
   refine ⟨hS4, ?_⟩;clear hS3;go_simp;refine hT 11 14 hS4 ?_;refine hT 12 15 hS4 ?_;have p1 : (w2.setCell ⟨lb, 0, none⟩ (.int .i64 b)).cell? ⟨lb, 1, none⟩ = some (.int .i64 0) := (World.cell?_setCell_other _ _ _ _ (by intro e; injection e with _ e1; omega)).trans HC3.out.lcells.2.1;have f1 : (w2.setCell ⟨lb, 0, none⟩ (.int .i64 b)).frozen? ⟨lb, 1, none⟩ = false := by simpa using HC3.out.lcells.2.2.2 1
   refine Op1 13 ?_;refine wp_store_cell 3 (.tmp 15) (.tmp 11) rfl lb 1 (.int .i64 t) _ rfl rfl rfl infoInt1 p1 f1 ?_;have HC4 := Hh (HC3.out.rebase HW.out b t);obtain ⟨W4, hW4⟩ : ∃ W4, W4 = (w2.setCell ⟨lb, 0, none⟩ (.int .i64 b)).setCell ⟨lb, 1, none⟩ (.int .i64 t) := ⟨_, rfl⟩
   rw [← hW4] at HC4 ⊢;have hS5 : PlS pl lb W4 := ⟨HC4.out.cell HW.out⟩
   refine ⟨hS5, OpE ?_⟩;clear hS4 hS5 p0 p1 f0 f1 hW4;go_wp2_with fail;refine (eyeNum q 4096 _ _ HC4.out.eye).mono ?_;rintro e w5 ⟨hb5, hr5⟩;cases hg5 : getNum 4096 r2 with
   | err x =>
    rw [hg5] at hr5;obtain rfl : e = broke x := hr5;have hN : N = .err x := by rw [HN2.out, hg5]; rfl
    subst hN;have HB := Hh hb5;clear hg5 hb5;go_wp2;exact ⟨rfl, HC4.out.err HW.out HB.out⟩
   | ok n r5 =>
    rw [hg5] at hr5;obtain ⟨rfl, heye5⟩ := hr5;have hn9 := getNum_most hg5;have hN : N = (getItems n r5).bind fun l r4 => .ok ⟨b, t, l⟩ r4 := by rw [HN2.out, hg5]; rfl
    have HN5 := Hh hN;have HC5 := Hh (HC4.out.but HW.out hb5 heye5);clear hN hg5 hb5 heye5;go_wp2_with fail;go_loopw [18] (fun kv wr => ∃ (k : Nat) (r : List UInt8) (its : List PItem) (la : Option Addr) (lc : Nat) (ms : List MItem), kv = .int .u64 k ∧ k ≤ n ∧ ms.length = k ∧ N = ((getItems (n - k) r).bind fun l r' => .ok ⟨b, t, its ++ l⟩ r') ∧ Cl w q lb pl wr r ⟨b, t, its⟩ la lc ms) (fun kv _ => n - (intOf kv).toNat)
    case atStart => exact ⟨0, r5, [], none, 0, [], rfl, by omega, rfl, by rw [HN5.out]; rfl, HC5.out⟩
    case round =>
     obtain ⟨k, r, its, la, lc, ms, rfl, hk, hmk, hNk, hck⟩ := hrel;have HNK := Hh hNk;have HCK := Hh hck;have HMK := Hh hmk;have hml : ms.length ≤ 4096 := by omega
     clear hNk hck hmk;by_cases hkn : k < n
     ·have tk : decide ((k : Int) < (n : Int)) = true := by simpa using hkn
      have hk1 : n - k = (n - (k + 1)) + 1 := by omega
      go_wp2_with fail;refine (eyeNum q 1099511627776 _ _ HCK.out.eye).mono ?_;rintro e w6 ⟨hb6, hr6⟩;cases hg6 : getNum 1099511627776 r with
      | err x =>
       rw [hg6] at hr6;obtain rfl : e = broke x := hr6;have hN : N = .err x := by rw [HNK.out, hk1, getItems, hg6]; rfl
       subst hN;have HB := Hh hb6;clear hg6 hb6 hk1;go_wp2;exact ⟨rfl, HCK.out.err HW.out HB.out⟩
      | ok z r6 =>
       rw [hg6] at hr6;obtain ⟨rfl, heye6⟩ := hr6;have hz9 := getNum_most hg6;have wz : IntKind.i64.wrap (z : Int) = z := IntWalk.i64_in _ (by omega);have HC6 := Hh (HCK.out.but HW.out hb6 heye6);have HNK6 := Hh (show N = (getText 8192 r6).bind fun v r7 => (getItems (n - (k + 1)) r7).bind fun l r' => .ok ⟨b, t, its ++ (((z : Int), v) :: l)⟩ r' from by
        rw [HNK.out, hk1, getItems, hg6, Res.bind_ok];cases hx : getText 8192 r6 with
        | err x => rfl
        | ok v7 r7 =>
         simp only [Res.bind_ok];cases hy : getItems (n - (k + 1)) r7 <;> rfl)
       obtain ⟨W7, hW7⟩ : ∃ W7, W7 = w6.alloc (.cells #[.int .i64 z, .slice none 0 0] 40) := ⟨_, rfl⟩
       have HW7 := Hh hW7;have hb7 : Below w6.heap.size w6 W7 := by rw [hW7]; exact (Below.refl _ _).alloc (Nat.le_refl _) _
       have hr7 : W7.heap[w6.heap.size]? = some (.cells #[.int .i64 z, .slice none 0 0] 40 (0, 0)) := by rw [hW7]; exact heap_alloc_new _ _
       have hs7 : W7.heap.size = w6.heap.size + 1 := by rw [hW7]; simp
       have HC7 := Hh (HC6.out.below HW.out hb7);have HB7 := Hh hb7;have HR7 := Hh hr7;have hs6 := HC6.out.size;clear hg6 hb6 heye6 hW7 hb7 hr7 hk1;go_wp2_with fail;rw [← HW7.out];refine (eyeText q 8192 _ _ HC7.out.eye (by omega)).mono ?_;rintro e w8 ⟨hb8, hr8⟩;cases hg8 : getText 8192 r6 with
       | err x =>
        rw [hg8] at hr8;obtain rfl : e = broke x := hr8;have hN : N = .err x := by rw [HNK6.out, hg8]; rfl
        subst hN;have HB := Hh hb8;clear hg8 hb8;go_wp2;exact ⟨rfl, HC7.out.err HW.out HB.out⟩
       | ok v r8 =>
        rw [hg8] at hr8;obtain ⟨⟨va, vc, rfl, hbv, hov⟩, heye8⟩ := hr8;have hv8 : v.length ≤ 8192 := (text_put hg8).2;have HN8 := Hh (show N = (getItems (n - (k + 1)) r8).bind fun l r' => .ok ⟨b, t, its ++ (((z : Int), v) :: l)⟩ r' from by rw [HNK6.out, hg8]; rfl);have hrow8 := (hb8.block w6.heap.size (by omega) (by have := HW.out.hq; omega)).trans HR7.out;have HB8 := Hh hb8;have HE8 := Hh heye8;have HOV := Hh hov;have hs8 := hb8.size;have c1 : w8.cell? ⟨w6.heap.size, 1, none⟩ = some (.slice none 0 0) := cell_of_row w8 w6.heap.size 1 _ _ _ hrow8;have f1 : w8.frozen? ⟨w6.heap.size, 1, none⟩ = false := frozen_of_row _ _ _ _ _ hrow8;have HRW8 := Hh hrow8;clear hg8 hb8 hbv hov heye8 hrow8;go_wp2_with fail;obtain ⟨W9, hW9⟩ : ∃ W9, W9 = w8.setCell ⟨w6.heap.size, 1, none⟩ (.slice va v.length vc) := ⟨_, rfl⟩
        refine (show Code.wp _ _ _ _ (w8.setCell ⟨w6.heap.size, 1, none⟩ (.slice va v.length vc)) from ?_);rw [← hW9];have ho9 : ∀ k, k ≠ w6.heap.size → W9.heap[k]? = w8.heap[k]? := fun k hk => by rw [hW9]; exact Below.heap_setCell _ _ _ k hk
        have hs9 : W9.heap.size = w8.heap.size := by rw [hW9]; simp
        have hs9a : W9.heap.size ≤ w8.heap.size := by omega
        have hs9b : w8.heap.size ≤ W9.heap.size := by omega
        clear hs9;have he9 : W9.os = w8.os ∧ W9.tape = w8.tape ∧ W9.output = w8.output := by rw [hW9]; exact ⟨rfl, rfl, rfl⟩
        have hr9 : W9.heap[w6.heap.size]? = some (.cells #[.int .i64 z, .slice va v.length vc] 40 (0, 0)) := by
         rw [hW9];have h9 := heap_setCell_same w8 w6.heap.size 1 _ _ (.slice va v.length vc) HRW8.out;simpa using h9
        have hch : ∀ k, k < w6.heap.size → k ≠ q → W9.heap[k]? = w6.heap[k]? := fun k hk hkq => (ho9 k (by omega)).trans ((HB8.out.block k (by omega) hkq).trans (HB7.out.block k hk))
        have HCH := Hh hch;have HE9 := Hh (HE8.out.keep (w' := W9) ⟨he9.1, he9.2.1, he9.2.2, by omega, fun k hk => ho9 k (by omega)⟩);have HLN9 := Hh (HC6.out.ln.moved (W' := W9) (hch lb (by omega) hlq) fun j h1 h2 => hch j h2 (by omega));have HOV9 := Hh (own_moved HOV.out (w' := W9) fun g cur hg _ => ho9 g (by have := (own_lt HOV.out hg).1; omega));have HC9 := Hh (show Cl w q lb pl W9 r8 ⟨b, t, its⟩ la lc ms from ⟨he9.1.trans (HB8.out.os.trans HC7.out.os), he9.2.1.trans (HB8.out.tape.trans HC7.out.tape), he9.2.2.trans (HB8.out.output.trans HC7.out.output), by omega, fun j h1 h2 h3 => (hch j (by omega) h2).trans (HC6.out.blk j h1 h2 h3), HE9.out, HLN9.out⟩);have HR9 := Hh hr9;clear hW9 ho9 he9 hr9 hch c1 f1;refine OpR (S := R5S pl lb w6.heap.size z (.slice va v.length vc)) ?_;have hS9 : R5S pl lb w6.heap.size z (.slice va v.length vc) W9 := ⟨HC9.out.cell HW.out, cell_of_row W9 w6.heap.size 0 _ _ _ HR9.out, cell_of_row W9 w6.heap.size 1 _ _ _ HR9.out⟩
        have HS9 := Hh hS9;have hpl := HW.out.hpl;have hdr : Below W9.heap.size W9 W9.drew := (Below.refl _ _).drew;have hS0 := hS9.keep hdr (by omega) (by omega);clear hS9;refine hT 0 27 hS0 ?_;refine hT 1 28 hS0 ?_;refine hT 2 29 hS0 ?_;refine hT 3 30 hS0 ?_;refine hT 5 32 hS0 ?_;obtain ⟨W10, hW10⟩ : ∃ W10, W10 = (W9.alloc (.cells #[.int .i64 z, .slice va v.length vc] 40)).drew := ⟨_, rfl⟩
        have hb10 : Below W9.heap.size W9 W10 := by rw [hW10]; exact ((Below.refl _ _).alloc (Nat.le_refl _) _).drew
        have hs10 : W10.heap.size = W9.heap.size + 1 := by rw [hW10]; simp
        have HSI := Hh (show SlAt W10 W10.heap.size 2 (some ⟨W9.heap.size, 0, none⟩) 1 1 [.int .i64 z, .slice va v.length vc] from by
         rw [hs10, hW10];exact (slAt_item W9 #[.int .i64 z, .slice va v.length vc] 40 2 rfl).below (show Below (W9.heap.size + 1) (W9.alloc (.cells #[.int .i64 z, .slice va v.length vc] 40)) (W9.alloc (.cells #[.int .i64 z, .slice va v.length vc] 40)).drew from (Below.refl _ _).drew) (Nat.le_refl _))
        have HB10 := Hh hb10;have HS10 := Hh (HS9.out.keep hb10 (by omega) (by omega));have HW10 := Hh hW10;have HP2 := Hh (show ∀ U, Below W9.heap.size W9 U → U.cell? ⟨lb, 2, none⟩ = some (.slice la ms.length lc) from fun U hb => (hb.cell (p := ⟨lb, 2, none⟩) (by show lb < _; omega)).trans HC9.out.lcells.2.2.1);have HD9 := Hh hdr;have HS0 := Hh hS0;clear hW10 hb10 hdr hS0;apply way1 (fun U : World => W10 = U);intro hway;refine Op2 4 6 ?_ ?_
        ·skip
         have p2 := HP2.out _ HD9.out;go_simp;clear p2;refine ⟨HS0.out, ?_⟩;refine Op1 6 ?_;go_simp;rw [← HW10.out];refine ⟨HS10.out, ?_⟩;exact hway W10 rfl
        ·skip
         go_simp;rw [← HW10.out];refine ⟨HS10.out, ?_⟩;refine Op1 4 ?_;have p2 := HP2.out _ HB10.out;go_simp;clear p2;refine ⟨HS10.out, ?_⟩;exact hway W10 rfl
        intro U hU;subst hU;refine Op1 7 ?_;refine wp_append_sl W10 (.tmp 31) (.tmp 33) 30 rfl w.heap.size 40 i0 (.agg #[.int .i64 0, .slice none 0 0]) 2 32 Tryz.underlying30 hi hz0 hz1 hz2 rfl (by decide) (.slice la ms.length lc) ms.length (cellsM ms) rfl (own_below' HC9.out.ln.own HB10.out) W10.heap.size (some ⟨W9.heap.size, 0, none⟩) 1 1 [.int .i64 z, .slice va v.length vc] rfl HSI.out (by intro u hu; simp at hu; rcases hu with rfl | rfl <;> rfl) (by unfold maxLen; omega) (by omega) (by omega) ?_;intro a11 c11 W11 o11 g11 _;have hs11 := g11.size;have hq1 := HW.out.hq;have hrow : ∀ j, some j = (Value.slice la ms.length lc).ownBlock → w.heap.size ≤ j := fun j e => (own_lt HC9.out.ln.own e.symm).1
        have hfar : ∀ j, j < w.heap.size → W11.heap[j]? = W9.heap[j]? := fun j hj => (g11.block j (by omega) (fun e => by have := hrow j e; omega)).trans (HB10.out.block j (by omega))
        have HFAR := Hh hfar;have hbox : (Value.slice la ms.length lc).ownBlock ≠ some w6.heap.size := fun e => by have := (own_lt HC6.out.ln.own e).2; omega
        have hS11 : R5S pl lb w6.heap.size z (.slice va v.length vc) W11 :=
         ⟨(g11.cell_far ⟨pl, 0, none⟩ (by show pl < _; omega) (fun e => by have := hrow pl e; omega)).trans HS10.out.g0,
          (g11.cell_far ⟨w6.heap.size, 0, none⟩ (by show w6.heap.size < _; omega) (fun e => hbox e.symm)).trans HS10.out.k0, (g11.cell_far ⟨w6.heap.size, 1, none⟩ (by show w6.heap.size < _; omega) (fun e => hbox e.symm)).trans HS10.out.k1⟩
        have hrl11 : W11.heap[lb]? = some (.cells #[.int .i64 b, .int .i64 t, .slice la ms.length lc] 105 (0, 0)) := (hfar lb hl).trans HC9.out.ln.row;refine ⟨hS11, ?_⟩;go_simp;refine hT 8 35 hS11 ?_;refine hT 9 36 hS11 ?_;have p2 : W11.cell? ⟨lb, 2, none⟩ = some (.slice la ms.length lc) := cell_of_row W11 lb 2 _ _ _ hrl11;have f2 : W11.frozen? ⟨lb, 2, none⟩ = false := frozen_of_row _ _ _ _ _ hrl11;refine Op1 10 ?_;refine wp_store_cell 30 (.tmp 36) (.tmp 34) rfl lb 2 (.slice a11 (ms.length + 1) c11) _ rfl rfl rfl infoItems1 p2 f2 ?_;obtain ⟨W12, hW12⟩ : ∃ W12, W12 = W11.setCell ⟨lb, 2, none⟩ (.slice a11 (ms.length + 1) c11) := ⟨_, rfl⟩
        rw [← hW12];have ho12 : ∀ j, j ≠ lb → W12.heap[j]? = W11.heap[j]? := fun j hj => by rw [hW12]; exact Below.heap_setCell _ _ _ j hj
        have hs12 : W12.heap.size = W11.heap.size := by rw [hW12]; simp
        have he12 : W12.os = W11.os ∧ W12.tape = W11.tape ∧ W12.output = W11.output := by rw [hW12]; exact ⟨rfl, rfl, rfl⟩
        have hr12 : W12.heap[lb]? = some (.cells #[.int .i64 b, .int .i64 t, .slice a11 (ms.length + 1) c11] 105 (0, 0)) := by
         rw [hW12];have h9 := heap_setCell_same W11 lb 2 _ _ (.slice a11 (ms.length + 1) c11) hrl11;simpa using h9
        have hE11 : EyeAt W11 q r8 := HC9.out.eye.keep ⟨g11.os.trans HB10.out.os, g11.tape.trans HB10.out.tape, g11.output.trans HB10.out.output, by omega, fun j hj => hfar j (by omega)⟩;have hE12 : EyeAt W12 q r8 := hE11.far (by omega) (fun j _ hj => ho12 j hj) hlq hrl11;have hown12 : W12.ownsRow w.heap.size 40 2 (.slice a11 (ms.length + 1) c11) (ms.length + 1) (cellsM ms ++ [.int .i64 z, .slice va v.length vc]) := own_moved o11 fun g cur hg _ => ho12 g (by have := (own_lt o11 hg).1; omega)
        have hbyt : ∀ (m : MItem) (B : Nat), w.heap.size ≤ B → W9.ownsRow B 5 1 (.slice m.a m.n m.c) m.n (m.b.map bv) → W12.ownsRow w.heap.size 5 1 (.slice m.a m.n m.c) m.n (m.b.map bv) := fun m B hB h9 => by
         refine World.ownsRow.mono (own_moved h9 fun g cur hg hc => ?_) hB;have h8 := own_lt h9 hg;refine (ho12 g (by omega)).trans ((g11.block g (by omega) (fun e => ?_)).trans (HB10.out.block g (by omega)));obtain ⟨cur', h7⟩ := own_block HC9.out.ln.own e.symm;exact ty_ne h7 hc ne_types.2.1
        have HC12 := Hh (show Cl w q lb pl W12 r8 ⟨b, t, its ++ [((z : Int), v)]⟩ a11 c11 (ms ++ [⟨z, va, v.length, vc, v⟩]) from by
         refine ⟨he12.1.trans (g11.os.trans (HB10.out.os.trans HC9.out.os)), he12.2.1.trans (g11.tape.trans (HB10.out.tape.trans HC9.out.tape)), he12.2.2.trans (g11.output.trans (HB10.out.output.trans HC9.out.output)), by omega, fun j h1 h2 h3 => (ho12 j h3).trans ((hfar j h1).trans (HC9.out.blk j h1 h2 h3)), hE12, ⟨?_, ?_, by simp [HC9.out.ln.its], fun m hm => ?_⟩⟩
         ·rw [hr12]; simp
         ·rw [cellsM_append];have h9 := hown12;rw [show (ms ++ [(⟨z, va, v.length, vc, v⟩ : MItem)]).length = ms.length + 1 by simp];exact h9
         ·simp only [List.mem_append, List.mem_singleton] at hm;rcases hm with hm | rfl
          ·exact ⟨(HC9.out.ln.bs m hm).1, hbyt m _ (Nat.le_refl _) (HC9.out.ln.bs m hm).2⟩
          ·exact ⟨hv8, hbyt ⟨z, va, v.length, vc, v⟩ W7.heap.size (by omega) HOV9.out⟩)
        have hS12 : R5S pl lb w6.heap.size z (.slice va v.length vc) W12 := ⟨HC12.out.cell HW.out, (World.cell?_of_block (a := ⟨w6.heap.size, 0, none⟩) (ho12 w6.heap.size (by omega))).trans hS11.k0, (World.cell?_of_block (a := ⟨w6.heap.size, 1, none⟩) (ho12 w6.heap.size (by omega))).trans hS11.k1⟩
        refine ⟨hS12, OpE ?_⟩;have HNN := Hh (show N = ((getItems (n - (k + 1)) r8).bind fun l r' => .ok ⟨b, t, (its ++ [((z : Int), v)]) ++ l⟩ r') from by
         rw [HN8.out]
         congr 1
         funext l r'
         simp)
        have hmk12 : (ms ++ [(⟨z, va, v.length, vc, v⟩ : MItem)]).length = k + 1 := by simp [HMK.out]
        have HMK2 := Hh hmk12;clear hS12 hS11 p2 f2 hrl11 hW12 ho12 he12 hr12 hown12 hbyt hfar hbox hrow g11 o11 hmk12 hE11 hE12;go_wp2;go_roundw
        case rel => exact ⟨k + 1, r8, its ++ [((z : Int), v)], a11, c11, ms ++ [⟨z, va, v.length, vc, v⟩], by go_num, hkn, HMK2.out, HNN.out, HC12.out⟩
        case measure => simp [intOf]; omega
     ·have tk : decide ((k : Int) < (n : Int)) = false := by simpa using hkn
      have hke : k = n := by omega
      subst hke;have hN : N = .ok ⟨b, t, its⟩ r := by rw [HNK.out, Nat.sub_self]; simp [getItems]
      subst hN;have HEL := Hh HCK.out.eye.len;clear hkn;go_wp2;go_end0;exact ⟨HCK.out.os, HCK.out.tape, HCK.out.output, HCK.out.size, HCK.out.blk, (fun x hh => by cases hh), (fun v' rest hh => by cases hh; exact ⟨rfl, HEL.out, la, lc, ms, HCK.out.ln⟩)⟩
end Go.Proofs.YtogcnfhmcpkdcaaGreat
namespace Go.Proofs.YtogcnfhmcpkdcaaGreat
open Go.RowKit
set_option linter.unusedVariables false
set_option linter.unusedSimpArgs false
def outL (r : Res PLine) : Int × Option PLine :=
 match r with
 | .err x => (x, none)
 | .ok v rest => if rest = [] then (if fitsB v v.l.length = true then (0, some v) else (4, none)) else (3, none)
def LReadTo (o : Int × Option PLine) (w : World) (e : Ending) (w' : World) : Prop :=
 Below w.heap.size w w' ∧ match o.2 with
  | none => e = .returned (.tuple #[.pointer none, .int .i64 o.1])
  | some v => ∃ p la lc ms, e = .returned (.tuple #[.pointer (some ⟨p, 0, none⟩), .int .i64 o.1]) ∧ LnAt w' w.heap.size p v la lc ms
structure RfS (pl lb : Nat) (sl : Value) (W : World) : Prop where
 g0 : W.cell? ⟨pl, 0, none⟩ = some (.pointer (some ⟨lb, 0, none⟩))
 g2 : W.cell? ⟨lb, 2, none⟩ = some sl
set_option maxRecDepth 100000 in
set_option maxHeartbeats 1000000 in
theorem lineRead (l : List UInt8) (a : Option Addr) (n c : Nat) (w : World) (h : BsAt w w.heap.size a n c l) :
  Calls Tryz.prog 94 #[.slice a n c] w (LReadTo (outL (getLine l)) w) := by
 obtain ⟨R, hR⟩ : ∃ R, R = getLine l := ⟨_, rfl⟩
 have hsane := sane_line l;rw [← hR] at hsane ⊢;have HR := Hh hR;have HS := Hh hsane;have H := Hh h;obtain ⟨W1, hW1⟩ : ∃ W1, W1 = (w.alloc (.cells #[.int .i64 0, .int .i64 0, .slice none 0 0] 105)).alloc (.cells #[.pointer (some ⟨w.heap.size, 0, none⟩)] 73) := ⟨_, rfl⟩
 have HW1 := Hh hW1;have hs1 : W1.heap.size = w.heap.size + 2 := by rw [hW1]; simp
 have HBW := Hh (show Below w.heap.size w W1 by rw [hW1]; exact ((Below.refl _ _).alloc (Nat.le_refl _) _).alloc (by simp) _);have HR0 := Hh (show W1.heap[w.heap.size]? = some (.cells #[.int .i64 0, .int .i64 0, .slice none 0 0] 105 (0, 0)) by
  rw [hW1];exact (((Below.refl _ _).alloc (Nat.le_refl (w.alloc (.cells #[.int .i64 0, .int .i64 0, .slice none 0 0] 105)).heap.size) _).block _ (by simp)).trans (heap_alloc_new w _))
 have HR1 := Hh (show W1.heap[w.heap.size + 1]? = some (.cells #[.pointer (some ⟨w.heap.size, 0, none⟩)] 73 (0, 0)) by
  rw [hW1];have h9 := heap_alloc_new (w.alloc (.cells #[.int .i64 0, .int .i64 0, .slice none 0 0] 105)) (.cells #[.pointer (some ⟨w.heap.size, 0, none⟩)] 73);simpa using h9)
 clear hR hsane h hW1;go_enter Tryz.func94, Tryz.ntmps94
 go_wp2_with fail;rw [← HW1.out];refine (fieldReadTo R HS.out l a n c 117 (enterOf Tryz.func117 (by kernel_rfl) rfl) #[] #[.pointer (some ⟨w.heap.size + 1, 0, none⟩)] w.heap.size W1 (by omega) ((H.out.below HBW.out (Nat.le_refl _)).mono HBW.out.size)
  (fun w1 w' v => ∃ la lc ms, LnOwn w1.heap.size w.heap.size w' v la lc ms) ?_).mono ?_
 ·intro q w1 hb hq he;show Calls _ 117 #[.pointer (some ⟨q, 0, none⟩), .pointer (some ⟨w.heap.size + 1, 0, none⟩)] w1 _;rw [HR.out];have hs := hb.size;exact lineRead1 q w.heap.size (w.heap.size + 1) l w1 he ⟨he.1, by omega, by omega, by omega, by omega, by omega, cell_of_row w1 (w.heap.size + 1) 0 _ _ _ ((hb.block _ (by omega)).trans HR1.out)⟩ ((hb.block _ (by omega)).trans HR0.out)
 ·rintro e w2 ⟨rfl, hg, hok⟩;have hb2 : Below w.heap.size w w2 := HBW.out.trans ((Below.refl _ W1).grown hg (by omega) (fun k e => by cases e; omega));have hs2 := hg.size;have HB2 := Hh hb2;have HOK := Hh hok;have d1 : w2.heap[w.heap.size + 1]? = some (.cells #[.pointer (some ⟨w.heap.size, 0, none⟩)] 73 (0, 0)) := (hg.block (w.heap.size + 1) (by omega) (by simp)).trans HR1.out;have p0 : w2.cell? ⟨w.heap.size + 1, 0, none⟩ = some (.pointer (some ⟨w.heap.size, 0, none⟩)) := cell_of_row w2 (w.heap.size + 1) 0 _ _ _ d1;clear hg hok hb2 d1;by_cases hz : ∃ v, R = .ok v []
  ·obtain ⟨v, hv⟩ := hz;obtain ⟨w1, w', rb, k1, k2, k3, k4, ⟨la, lc, ms, k5⟩, k6⟩ := HOK.out v hv;have k7 := k4.size;obtain ⟨-, hb0, hb1, -, -, -, -⟩ := getLine_ok (r := l) (by rw [← HR.out]; exact hv);have hln : LnAt w2 w.heap.size w.heap.size v la lc ms := (k5.moved (k6.block _ (by omega) (by omega)) fun j h1 h2 => k6.block j h2 (by omega)).lnAt (by omega);have HLN := Hh hln;have hz : R.code = 0 := by rw [hv]; rfl
   have t1 : (R.code != 0) = false := by simp [hz]
   obtain ⟨f, hf⟩ : ∃ f, fitsB v (ms.length : Int) = f := ⟨_, rfl⟩
   have HF := Hh hf;have HO := Hh (show outL R = if f = true then (0, some v) else (4, none) by rw [hv, ← hf, hln.len]; rfl);have p2 := hln.cells.2.2.1;have hml : ms.length ≤ 4096 := by
    obtain ⟨-, -, -, -, -, h9, -⟩ := getLine_ok (r := l) (by rw [← HR.out]; exact hv);have := hln.len;omega
   clear hz hv k4 k5 k6 hln hf;go_wp2_with fail;refine OpR (S := RfS (w.heap.size + 1) w.heap.size (.slice la ms.length lc)) ?_;have hS0 : RfS (w.heap.size + 1) w.heap.size (.slice la ms.length lc) w2.drew := ⟨p0, p2⟩
   refine hT 0 16 hS0 ?_;refine hT 1 17 hS0 ?_;refine hT 2 18 hS0 ?_;refine hT 3 19 hS0 ?_;refine hT 4 20 hS0 ?_;refine hT 5 21 hS0 ?_;refine Op1 6 ?_;go_simp;have hdr : Below w2.heap.size w2 w2.drew := (Below.refl _ _).drew;refine (lineFits w.heap.size w.heap.size v hb0 hb1 la lc ms _ _ (HLN.out.below hdr)).mono ?_;rintro e w3 ⟨rfl, rfl⟩;rw [HF.out];refine ⟨hS0, ?_⟩;refine hT 7 23 hS0 ?_;refine hT 8 15 hS0 ?_;refine OpE ?_;have HD := Hh hdr;have q0 : w2.drew.cell? ⟨w.heap.size + 1, 0, none⟩ = some (.pointer (some ⟨w.heap.size, 0, none⟩)) := p0;clear hS0 hdr p2 p0;cases f with
   | true =>
    go_wp2;(try rw [Exit.noGoto_ret]);go_ret2;unfold LReadTo;rw [HO.out];exact ⟨HB2.out.trans (HD.out.mono HB2.out.size), w.heap.size, la, lc, ms, rfl, HLN.out.below HD.out⟩
   | false =>
    go_wp2;(try rw [Exit.noGoto_ret]);go_ret2;unfold LReadTo;rw [HO.out];exact ⟨HB2.out.trans (HD.out.mono HB2.out.size), rfl⟩
  ·have hne : R.code ≠ 0 := by
    cases hR : R with
    | err x => exact HS.out x hR
    | ok v rest =>
     simp only [Res.code];split
     ·rename_i h9; exact absurd ⟨v, by rw [hR, h9]⟩ hz
     ·decide
   have HO := Hh (show outL R = (R.code, none) by
    cases hR : R with
    | err x => rfl
    | ok v rest =>
     simp only [Res.code, outL];split
     ·rename_i h9; exact absurd ⟨v, by rw [hR, h9]⟩ hz
     ·rfl)
   have t1 : (R.code != 0) = true := by simpa using hne
   clear hz hne;go_wp2;(try rw [Exit.noGoto_ret]);go_ret2;unfold LReadTo;rw [HO.out];exact ⟨HB2.out, rfl⟩
theorem fits_self {x : PLine} (hg : x.Good) : fitsB x (x.l.length : Int) = true := by
 have := hg.n1; have := hg.n2;simp [fitsB]; omega
theorem outL_put {x : PLine} (hg : x.Good) : outL (getLine x.put) = (0, some x) := by
 have h := getLine_put hg [];rw [List.append_nil] at h;rw [h];simp [outL, fits_self hg]
theorem outL_some {l : List UInt8} {v : PLine} {e : Int} (h : outL (getLine l) = (e, some v)) : e = 0 ∧ v.Good ∧ l = v.put := by
 cases hr : getLine l with
 | err x => rw [hr] at h; cases h
 | ok v' rest =>
  rw [hr] at h;simp only [outL] at h;by_cases h1 : rest = []
  ·rw [if_pos h1] at h;by_cases h2 : fitsB v' v'.l.length = true
   ·rw [if_pos h2] at h;injection h with h3 h4
    injection h4 with h4
    subst h4;obtain ⟨e1, e2, e3, e4, e5, e6, e7⟩ := getLine_ok hr;simp [fitsB] at h2;exact ⟨h3.symm, ⟨e2, e3, e4, e5, e6, by omega, e7⟩, by rw [e1, h1]; simp⟩
   ·rw [if_neg h2] at h; cases h
  ·rw [if_neg h1] at h; cases h
theorem outL_none {l : List UInt8} {e : Int} (h : outL (getLine l) = (e, none)) : e ≠ 0 := by
 cases hr : getLine l with
 | err x => rw [hr] at h; simp only [outL] at h; injection h with h1 _; rw [← h1]; exact sane_line l x hr
 | ok v' rest =>
  rw [hr] at h;simp only [outL] at h;by_cases h1 : rest = []
  ·rw [if_pos h1] at h;by_cases h2 : fitsB v' v'.l.length = true
   ·rw [if_pos h2] at h; cases h
   ·rw [if_neg h2] at h; injection h with h3 _; omega
  ·rw [if_neg h1] at h; injection h with h3 _; omega
end Go.Proofs.YtogcnfhmcpkdcaaGreat
