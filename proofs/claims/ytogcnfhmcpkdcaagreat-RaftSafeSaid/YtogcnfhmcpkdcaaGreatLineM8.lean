/-
  Contracts of Line.Copy, Line.Drop and Line.Item.
  Contract of Line.Item.
-/
import Derived.Test.YtogcnfhmcpkdcaaGreatLineM9
namespace Go.Proofs.YtogcnfhmcpkdcaaGreat
open Go.RowKit
set_option linter.unusedVariables false
set_option linter.unusedSimpArgs false
structure LnS (p : Nat) (b t : Int) (la : Option Addr) (n lc : Nat) (w' : World) : Prop where
 g0 : w'.cell? ⟨p, 0, none⟩ = some (.int .i64 b)
 g1 : w'.cell? ⟨p, 1, none⟩ = some (.int .i64 t)
 g2 : w'.cell? ⟨p, 2, none⟩ = some (.slice la n lc)
theorem LnS.keep {p : Nat} {b t : Int} {la : Option Addr} {n lc : Nat} {w w' : World} (h : LnS p b t la n lc w) {N : Nat} (hb : Below N w w') (hp : p < N) : LnS p b t la n lc w' :=
 ⟨(hb.cell (p := ⟨p, _, none⟩) hp).trans h.g0, (hb.cell (p := ⟨p, _, none⟩) hp).trans h.g1, (hb.cell (p := ⟨p, _, none⟩) hp).trans h.g2⟩
theorem LineAt.lnS {w : World} {base p : Nat} {x : PLine} {la : Option Addr} {lc : Nat} {ms : List MItem} (h : LnAt w base p x la lc ms) : LnS p x.base x.term la ms.length lc w :=
 ⟨h.cells.1, h.cells.2.1, h.cells.2.2.1⟩
theorem LineAt.rebase {A : World} {base p : Nat} {x : PLine} {la : Option Addr} {lc : Nat} {ms : List MItem} (h : LnAt A base p x la lc ms) (b t : Int) :
  LnAt ((A.setCell ⟨p, 0, none⟩ (.int .i64 b)).setCell ⟨p, 1, none⟩ (.int .i64 t)) base p ⟨b, t, x.l⟩ la lc ms ∧ ∀ k, k ≠ p → ((A.setCell ⟨p, 0, none⟩ (.int .i64 b)).setCell ⟨p, 1, none⟩ (.int .i64 t)).heap[k]? = A.heap[k]? := by
 have hne := h.far ne_types.1;have hoth : ∀ k, k ≠ p → ((A.setCell ⟨p, 0, none⟩ (.int .i64 b)).setCell ⟨p, 1, none⟩ (.int .i64 t)).heap[k]? = A.heap[k]? := fun k hk => (Below.heap_setCell _ _ _ k hk).trans (Below.heap_setCell _ _ _ k hk)
 have h9 := heap_setCell_same A p 0 _ _ (.int .i64 b) h.row;have h10 := heap_setCell_same _ p 1 _ _ (.int .i64 t) h9;refine ⟨⟨?_, ?_, h.its, fun y hy => (h.bs y hy).grown (T := 5) (fun k cs fr hk hc => hoth k (fun e => ?_)) (by simp), h.pb⟩, hoth⟩
 ·rw [h10]; rfl
 ·exact World.ownsRow.kept h.own (row := some p) ⟨rfl, rfl, rfl, by simp, fun k hk hne2 => hoth k (fun e => hne2 (by rw [e]))⟩ (.inr hne)
 ·rw [e, h.row] at hc;injection hc with hc
  injection hc with _ e2 _
  exact ne_types.2.2 e2
set_option maxRecDepth 100000 in
set_option maxHeartbeats 1000000 in
theorem lineCopy (base p : Nat) (x : PLine) (hg : x.Good) (la : Option Addr) (lc : Nat) (ms : List MItem) (w : World) (h : LnAt w base p x la lc ms) :
  Calls Tryz.prog 64 #[.pointer (some ⟨p, 0, none⟩)] w fun e w' => ∃ q la' lc', e = .returned (.pointer (some ⟨q, 0, none⟩)) ∧ LnAt w' w.heap.size q x la' lc' ms ∧ Below w.heap.size w w' ∧ w.heap.size ≤ q := by
 have hpl := h.lt;have hl := h.len;have h1 := hg.n1;have hn : ms.length ≤ 100000 := by omega
 have H := Hh h;clear h hl h1;go_enter Tryz.func64, Tryz.ntmps64
 go_wp2_with fail;refine OpR (S := LnS p x.base x.term la ms.length lc) ?_;have hS0 : LnS p x.base x.term la ms.length lc w.drew := H.out.lnS.keep (N := w.heap.size) (Below.refl _ _).drew hpl;refine hT 0 3 hS0 ?_;refine hT 1 4 hS0 ?_;refine hT 2 5 hS0 ?_;refine hT 3 6 hS0 ?_;refine hT 4 7 hS0 ?_;refine hT 5 8 hS0 ?_;refine hT 6 9 hS0 ?_;refine hT 7 10 hS0 ?_;refine hT 8 11 hS0 ?_;refine hT 9 12 hS0 ?_;refine hT 10 13 hS0 ?_;refine hT 11 14 hS0 ?_;refine Op1 12 ?_;go_simp;have hd : Below w.heap.size w w.drew := (Below.refl _ _).drew;refine (cloneItems (cellsM ms) (cellsM_one _) la ms.length lc hn _ (H.out.below hd).sl.sl).mono ?_;rintro e w3 ⟨a', c', rfl, hown, hb⟩;have hb' : Below w.heap.size w w3 := hd.trans hb;have HL3 := Hh (H.out.below hb');have HB3 := Hh hb';have HO3 := Hh (show w3.ownsRow w.heap.size 40 2 (.slice a' ms.length c') ms.length (cellsM ms) from hown);have hs3 := hb'.size;have hS3 := HL3.out.lnS;refine ⟨hS3, ?_⟩;clear hb hb' hown hd hS0;refine hT 13 16 hS3 ?_;refine Op1 14 ?_;go_simp;have hbA : Below w3.heap.size w3 (w3.alloc (.cells #[.int .i64 x.base, .int .i64 x.term, .slice a' ms.length c'] 105)) := (Below.refl _ _).alloc (Nat.le_refl _) _;have hSA := hS3.keep hbA (by omega);have HFIN := Hh (show LnAt (w3.alloc (.cells #[.int .i64 x.base, .int .i64 x.term, .slice a' ms.length c'] 105)) w.heap.size w3.heap.size x a' c' ms from ⟨heap_alloc_new w3 _, HO3.out.alloc _, HL3.out.its, fun m hm => (HL3.out.bs m hm).below hbA, hs3⟩);have HBA := Hh (HB3.out.trans (hbA.mono hs3));refine ⟨hSA, ?_⟩;clear hS3 hbA;refine hT 15 2 hSA ?_;refine OpE ?_;clear hSA;go_wp2;go_ret;exact ⟨_, a', c', rfl, HFIN.out, HBA.out, hs3⟩
structure DrS (p : Nat) (b t : Int) (w' : World) : Prop where
 g0 : w'.cell? ⟨p, 0, none⟩ = some (.int .i64 b)
 g1 : w'.cell? ⟨p, 1, none⟩ = some (.int .i64 t)
set_option maxRecDepth 100000 in
set_option maxHeartbeats 1000000 in
theorem lineDrop (base p : Nat) (x : PLine) (hg : x.Good) (la : Option Addr) (lc : Nat) (ms : List MItem) (i : Int) (w : World) (h : LnAt w base p x la lc ms) (hbase : base ≤ w.heap.size) :
  Calls Tryz.prog 54 #[.pointer (some ⟨p, 0, none⟩), .int .i64 i] w fun e w' => e = .returned (.bool (x.drop i).2) ∧ LineTo base p (x.drop i).1 (Value.slice la ms.length lc).ownBlock w w' := by
 have hpl := h.lt;have hl := h.len;have h1 := hg.n1;have hb0 := hg.b0;have hb1 := hg.b1;have hn : ms.length ≤ 100000 := by omega
 have htg := hg.tm_ge i;have hlast : x.last = x.base + (x.l.length : Int) := rfl;have H := Hh h;by_cases ht : 0 ≤ x.tm i
 ·have hE : x.drop i = (⟨i, x.tm i, x.l.drop (i - x.base).toNat⟩, true) := by rw [PLine.drop, if_neg (by omega)]
  have hT : tmIs x i = (x.tm i, true) := by rw [tmIs, if_pos ht]
  rw [hE];obtain ⟨t, htt⟩ : ∃ t, x.tm i = t := ⟨_, rfl⟩
  rw [htt] at hT ⊢;obtain ⟨K, hK⟩ : ∃ K : Nat, i - x.base = K := ⟨(i - x.base).toNat, by have := htg.1 ht; omega⟩
  have hKn : K ≤ ms.length := by have := htg.1 ht; omega
  have hKt : (i - x.base).toNat = K := by omega
  rw [hKt];have wK : IntKind.i64.wrap (K : Int) = K := IntWalk.i64_in _ (by omega);have hK0 : (0 : Int) ≤ K := by omega
  have hK1 : (K : Int) ≤ (ms.length : Int) := by omega
  have HT := Hh hT;obtain ⟨A, hA⟩ : ∃ A, (if lc = K then la else Option.map (fun x => x.add (K * 2)) la) = A := ⟨_, rfl⟩
  have hits : ItemsAt w w.heap.size A (ms.length - K) (lc - K) (ms.drop K) := by
   have hf := h.sl.from_ (k := K) (by omega);rw [← hA];exact hf
  have HITS := Hh hits;clear h hl h1 ht htg hlast hE hT htt hits hKt;go_enter Tryz.func54, Tryz.ntmps54
  go_wp2_with fail;refine (lineTerm base p x hg la lc ms i _ H.out).mono ?_;rintro e w1 ⟨rfl, m, rfl⟩;rw [HT.out];go_wp2_with fail;obtain ⟨V, hV⟩ : ∃ V, V = w.drewN m := ⟨_, rfl⟩
  rw [← hV];have hbV : Below w.heap.size w V := by rw [hV]; exact below_drewN _ _
  have hsV := hbV.size;have HLV := Hh (H.out.below hbV);have HBV := Hh hbV;have p2 := HLV.out.cells.2.2.1;clear hV hbV;refine OpR (S := DrS p x.base x.term) ?_;have hS0 : DrS p x.base x.term V.drew := ⟨HLV.out.cells.1, HLV.out.cells.2.1⟩
  refine hT 0 15 hS0 ?_;refine hT 1 16 hS0 ?_;refine hT 2 17 hS0 ?_;refine hT 3 18 hS0 ?_;refine hT 5 20 hS0 ?_;refine hT 6 21 hS0 ?_;refine hT 7 22 hS0 ?_;refine hT 8 23 hS0 ?_;refine hT 9 24 hS0 ?_;refine hT 10 25 hS0 ?_;have HS0 := Hh hS0;clear hS0;refine Op1 4 ?_;go_simp;refine ⟨HS0.out, ?_⟩;refine hT 11 26 HS0.out ?_;refine Op1 12 ?_;go_simp;have hdV : Below w.heap.size w V.drew := HBV.out.trans (Below.refl _ _).drew;have hdV2 : Below V.heap.size V V.drew := (Below.refl _ _).drew;refine (cloneItems (cellsM (ms.drop K)) (cellsM_one _) A (ms.length - K) (lc - K) (by omega) _ ((HITS.out.below hdV (Nat.le_refl _)).mono hsV).sl).mono ?_;rintro e w3 ⟨a6, c6, rfl, hown6, hb6⟩;have hb6' : Below V.heap.size V w3 := hdV2.trans hb6;have hs6 := hb6'.size;have HLN6 := Hh (HLV.out.below hb6');have HB6 := Hh hb6';have hS6 : DrS p x.base x.term w3 := ⟨HLN6.out.cells.1, HLN6.out.cells.2.1⟩
  have p26 := HLN6.out.cells.2.2.1;have f26 := HLN6.out.cells.2.2.2 2;have hlt6 : ∀ g, (Value.slice a6 (ms.length - K) c6).ownBlock = some g → V.heap.size ≤ g := fun g e => (own_lt hown6 e).1
  have hne6 : (Value.slice a6 (ms.length - K) c6).ownBlock ≠ some p := fun e => by have h9 := hlt6 p e; omega
  obtain ⟨hln7, hot7⟩ := HLN6.out.put (n6 := ms.length - K) (ms6 := ms.drop K) (by simp) (World.ownsRow.mono hown6 (show base ≤ V.heap.size by omega)) hne6 (fun m hm => HLN6.out.bs m (List.mem_of_mem_drop hm));obtain ⟨hln8, hot8⟩ := hln7.rebase i t;have HLT6 := Hh hlt6;have HLN7 := Hh hln7;have HLN8 := Hh hln8;have HOT := Hh (fun k (hk : k ≠ p) => (hot8 k hk).trans (hot7 k hk));refine ⟨hS6, ?_⟩;clear hb6 hb6' hown6 hne6 hlt6 hln7 hot7 hln8 hot8 hdV hdV2 p2;refine hT 13 28 hS6 ?_;refine hT 14 29 hS6 ?_;refine Op1 15 ?_;refine wp_store_cell 30 (.tmp 29) (.tmp 27) rfl p 2 (.slice a6 (ms.length - K) c6) _ rfl rfl rfl infoItems1 p26 f26 ?_;have hS7 : DrS p x.base x.term (w3.setCell ⟨p, 2, none⟩ (.slice a6 (ms.length - K) c6)) := ⟨HLN7.out.cells.1, HLN7.out.cells.2.1⟩
  refine ⟨hS7, OpE ?_⟩;clear hS6 p26 f26 hS7;obtain ⟨d0, d1, -, df⟩ := HLN7.out.cells;obtain ⟨W7, hW7⟩ : ∃ W7, W7 = w3.setCell ⟨p, 2, none⟩ (.slice a6 (ms.length - K) c6) := ⟨_, rfl⟩
  rw [← hW7] at d0 d1 df HLN8 HOT ⊢;have hs7 : W7.heap.size = w3.heap.size := by rw [hW7]; simp
  have HW7 := Hh (show W7.os = w3.os ∧ W7.tape = w3.tape ∧ W7.output = w3.output by rw [hW7]; exact ⟨rfl, rfl, rfl⟩);clear hW7 HLN7;go_wp2;go_ret;refine ⟨rfl, a6, c6, ms.drop K, ?_, ?_, ?_⟩
  ·have h9 := HLN8.out;rw [List.map_drop, HLN6.out.its] at h9;exact h9
  ·refine ⟨HW7.out.1.trans (HB6.out.os.trans HBV.out.os), HW7.out.2.1.trans (HB6.out.tape.trans HBV.out.tape), HW7.out.2.2.trans (HB6.out.output.trans HBV.out.output), by simp; omega, fun k hk hkp _ => ?_⟩;exact (HOT.out k hkp).trans ((HB6.out.block k (by omega)).trans (HBV.out.block k hk))
  ·intro g hg9;rw [show (ms.drop K).length = ms.length - K by simp] at hg9;have h9 := HLT6.out g hg9;exact .inr (by omega)
 ·have hE : x.drop i = (x, false) := by rw [PLine.drop, if_pos (by omega)]
  have hT : tmIs x i = (0, false) := by rw [tmIs, if_neg ht]
  rw [hE];have HT := Hh hT;clear h hl h1 ht htg hlast hE hT;go_enter Tryz.func54, Tryz.ntmps54
  go_wp2_with fail;refine (lineTerm base p x hg la lc ms i _ H.out).mono ?_;rintro e w1 ⟨rfl, m, rfl⟩;rw [HT.out];go_wp2;go_ret;exact ⟨rfl, LineTo.same H.out (below_drewN _ _)⟩
end Go.Proofs.YtogcnfhmcpkdcaaGreat
namespace Go.Proofs.YtogcnfhmcpkdcaaGreat
open Go.RowKit
set_option linter.unusedVariables false
set_option linter.unusedSimpArgs false
structure ItS (p b q : Nat) (bs : Int) (la : Option Addr) (n lc : Nat) (m : MItem) (w' : World) : Prop where
 g0 : w'.cell? ⟨p, 0, none⟩ = some (.int .i64 bs)
 g2 : w'.cell? ⟨p, 2, none⟩ = some (.slice la n lc)
 k0 : w'.cell? ⟨b, q, none⟩ = some (.int .i64 m.t)
 k1 : w'.cell? ⟨b, q + 1, none⟩ = some (.slice m.a m.b.length m.c)
theorem ItS.keep {p b q : Nat} {bs : Int} {la : Option Addr} {n lc : Nat} {m : MItem} {w w' : World} (h : ItS p b q bs la n lc m w) {N : Nat} (hb : Below N w w') (h1 : p < N) (h2 : b < N) : ItS p b q bs la n lc m w' :=
 ⟨(hb.cell (p := ⟨p, _, none⟩) h1).trans h.g0, (hb.cell (p := ⟨p, _, none⟩) h1).trans h.g2, (hb.cell (p := ⟨b, _, none⟩) h2).trans h.k0, (hb.cell (p := ⟨b, _, none⟩) h2).trans h.k1⟩
def ItemToO (x : PLine) (i : Int) (w : World) (e : Ending) (w' : World) : Prop :=
 if x.base < i ∧ i ≤ x.last then ∃ a' c', e = .returned (.tuple #[.agg #[.int .i64 (x.l.getD (i - x.base - 1).toNat (0, [])).1, .slice a' (x.l.getD (i - x.base - 1).toNat (0, [])).2.length c'], .bool true]) ∧ OwnBs 5 w' ⟨0, a', (x.l.getD (i - x.base - 1).toNat (0, [])).2.length, c', (x.l.getD (i - x.base - 1).toNat (0, [])).2⟩ ∧ Below w.heap.size w w'
 else e = .returned (.tuple #[.agg #[.int .i64 0, .slice none 0 0], .bool false]) ∧ Below w.heap.size w w'
theorem ItemToO.no {x : PLine} {i : Int} {w w' : World} (h : ¬ (x.base < i ∧ i ≤ x.last)) (hb : Below w.heap.size w w') : ItemToO x i w (.returned (.tuple #[.agg #[.int .i64 0, .slice none 0 0], .bool false])) w' := by
 unfold ItemToO; rw [if_neg h]; exact ⟨rfl, hb⟩
theorem ItemToO.yes {x : PLine} {i : Int} {w w' : World} {m : PItem} (h : x.base < i ∧ i ≤ x.last) (hm : x.l.getD (i - x.base - 1).toNat (0, []) = m) {a : Option Addr} {c : Nat} (hbs : OwnBs 5 w' ⟨0, a, m.2.length, c, m.2⟩) (hb : Below w.heap.size w w') : ItemToO x i w (.returned (.tuple #[.agg #[.int .i64 m.1, .slice a m.2.length c], .bool true])) w' := by
 unfold ItemToO; rw [if_pos h, hm]; exact ⟨a, c, rfl, hbs, hb⟩
set_option maxRecDepth 100000 in
set_option maxHeartbeats 1000000 in
theorem lineItemO (base p : Nat) (x : PLine) (hg : x.Good) (la : Option Addr) (lc : Nat) (ms : List MItem) (i : Int) (w : World) (h : LnAt w base p x la lc ms) :
  Calls Tryz.prog 53 #[.pointer (some ⟨p, 0, none⟩), .int .i64 i] w (ItemToO x i w) := by
 have hpl := h.lt;have hl := h.len;have h1 := hg.b0;have h2 := hg.b1;have h3 := hg.n1;have hn4 : (ms.length : Int) ≤ 4096 := by omega
 have hlast : x.last = x.base + (x.l.length : Int) := rfl;obtain ⟨L, hL⟩ : ∃ L, L = x.last := ⟨_, rfl⟩
 have HL := Hh hL;obtain ⟨W1, hW1⟩ : ∃ W1, W1 = w.alloc (.cells #[.int .i64 0, .slice none 0 0] 40) := ⟨_, rfl⟩
 have hs1 : W1.heap.size = w.heap.size + 1 := by rw [hW1]; simp
 have hbW : Below w.heap.size w W1 := by rw [hW1]; exact (Below.refl _ w).alloc (Nat.le_refl _) _
 have hr0 : W1.heap[w.heap.size]? = some (.cells #[.int .i64 0, .slice none 0 0] 40 (0, 0)) := by rw [hW1]; exact heap_alloc_new w _
 have HW1 := Hh hW1;have HBW := Hh hbW;have HR0 := Hh hr0;have H := Hh h;have HH := Hh (h.below hbW);by_cases e0 : i ≤ x.base
 ·have t0 : decide (i ≤ x.base) = true := by simpa using e0
  have HNO := Hh (show ¬ (x.base < i ∧ i ≤ x.last) by omega);obtain ⟨c0, -, -, -⟩ := HH.out.cells;rw [hW1] at c0;clear h hl hlast hL h3 e0 hW1 hbW hr0;go_enter Tryz.func53, Tryz.ntmps53
  go_wp2_with (rw [← HW1.out]; refine wpList_store_abs rfl 40 (.tmp 4) (.tmp 18) rfl w.heap.size #[.int .i64 0, .slice none 0 0] rfl rfl 40 _ HR0.out infoItem rfl (by simp [Value.oneCell']) ?_; intro W5 hrow5 hoth5 hb5 hs5);refine bodyPost_ret (results_row_tmp rfl _ _ w.heap.size 40 _ (0, 0) _ rfl hrow5 Tryz.underlying40 rfl infoItem) rfl ?_;exact ItemToO.no HNO.out (HBW.out.trans hb5)
 have t0 : decide (i ≤ x.base) = false := by simpa using e0
 by_cases e1 : L < i
 ·have t1 : decide (L < i) = true := by simpa using e1
  have HNO := Hh (show ¬ (x.base < i ∧ i ≤ x.last) by omega);obtain ⟨c0, -, -, -⟩ := HH.out.cells;rw [hW1] at c0;clear h hl hlast hL h3 e0 e1 hW1 hbW hr0;go_enter Tryz.func53, Tryz.ntmps53
  go_wp2_with fail;rw [← HW1.out];refine (linelast base p x hg la lc ms _ HH.out).mono ?_;rintro e w3 ⟨rfl, m3, rfl⟩;rw [← HL.out];clear c0;have HR3 := Hh (show (W1.drewN m3).heap[w.heap.size]? = some (.cells #[.int .i64 0, .slice none 0 0] 40 (0, 0)) from HR0.out);have HB3 := Hh (show Below w.heap.size w (W1.drewN m3) from HBW.out.trans ((below_drewN W1 m3).mono (by omega)));go_wp2_with (refine wpList_store_abs rfl 40 (.tmp 4) (.tmp 18) rfl w.heap.size #[.int .i64 0, .slice none 0 0] rfl rfl 40 _ HR3.out infoItem rfl (by simp [Value.oneCell']) ?_; intro W5 hrow5 hoth5 hb5 hs5);refine bodyPost_ret (results_row_tmp rfl _ _ w.heap.size 40 _ (0, 0) _ rfl hrow5 Tryz.underlying40 rfl infoItem) rfl ?_;exact ItemToO.no HNO.out (HB3.out.trans hb5)
 have t1 : decide (L < i) = false := by simpa using e1
 obtain ⟨K, hK⟩ : ∃ K : Nat, i - x.base - 1 = K := ⟨(i - x.base - 1).toNat, by omega⟩
 have hKn : K < ms.length := by omega
 obtain ⟨m, hm⟩ : ∃ m, ms[K]? = some m := ⟨_, List.getElem?_eq_getElem hKn⟩
 obtain ⟨b, o, rfl, hb, k0, k1⟩ := h.sl.cell hm;have hmem := List.mem_of_getElem? hm;have hbs9 := h.sl.bs m hmem;have hmn : m.n = m.b.length := hbs9.hlen.symm;have hbl : m.b.length ≤ 8192 := by
  have hm3 : m.it ∈ x.l := by rw [← h.its]; exact List.mem_map_of_mem hmem
  exact ((rightI_iff _).1 (hg.its _ hm3)).2.2
 rw [hmn] at k1;have HBS := Hh (show BsAt w w.heap.size m.a m.b.length m.c m.b by rw [← hmn]; exact hbs9);have HYES := Hh (show x.base < i ∧ i ≤ x.last by omega);have HM := Hh (show x.l.getD (i - x.base - 1).toNat (0, []) = m.it by
  rw [hK, ← h.its];simp [List.getD, List.getElem?_map, hm])
 have s1 : IntKind.i64.wrap (i - x.base) = i - x.base := IntWalk.i64_in _ (by omega);have wK : IntKind.i64.wrap (K : Int) = K := IntWalk.i64_in _ (by omega);have hi1 : (K : Int) < (ms.length : Int) := by omega
 have hi0 : (0 : Int) ≤ (K : Int) := by omega
 have HS := Hh (show ItS p b (o + K * 2) x.base (some ⟨b, o, none⟩) ms.length lc m W1 from ⟨HH.out.cells.1, HH.out.cells.2.2.1, (hbW.cell (p := ⟨b, _, none⟩) hb).trans k0, (hbW.cell (p := ⟨b, _, none⟩) hb).trans k1⟩);obtain ⟨c0, -, -, -⟩ := HH.out.cells;rw [hW1] at c0;clear h hl hlast hL h3 e0 e1 hW1 hbW hr0 k0 k1 hm hmem hbs9 hmn;go_enter Tryz.func53, Tryz.ntmps53
 go_wp2_with fail;rw [← HW1.out];refine (linelast base p x hg _ lc ms _ HH.out).mono ?_;rintro e w3 ⟨rfl, m3, rfl⟩;rw [← HL.out];clear c0;obtain ⟨V, hV⟩ : ∃ V, V = W1.drewN m3 := ⟨_, rfl⟩
 rw [← hV];have hsV : V.heap.size = w.heap.size + 1 := by rw [hV, ← hs1]; rfl
 have HRV := Hh (show V.heap[w.heap.size]? = some (.cells #[.int .i64 0, .slice none 0 0] 40 (0, 0)) by rw [hV]; exact HR0.out);have HBV := Hh (show Below w.heap.size w V by rw [hV]; exact HBW.out.trans ((below_drewN W1 m3).mono (by omega)));have HSV := Hh (show ItS p b (o + K * 2) x.base (some ⟨b, o, none⟩) ms.length lc m V by rw [hV]; exact HS.out.keep (below_drewN W1 m3) (by omega) (by omega));clear hV;go_wp2_with fail;refine OpR (S := ItS p b (o + K * 2) x.base (some ⟨b, o, none⟩) ms.length lc m) ?_;have hS0 : ItS p b (o + K * 2) x.base (some ⟨b, o, none⟩) ms.length lc m V.drew := HSV.out.keep (N := w.heap.size) (Below.refl _ _).drew hpl hb;refine hT 0 19 hS0 ?_;refine hT 1 20 hS0 ?_;refine hT 2 21 hS0 ?_;refine hT 3 22 hS0 ?_;refine hT 4 23 hS0 ?_;refine hT 5 24 hS0 ?_;refine hT 6 25 hS0 ?_;refine hT 7 26 hS0 ?_;refine hT 8 27 hS0 ?_;refine hT 9 28 hS0 ?_;refine hT 10 29 hS0 ?_;refine hT 11 30 hS0 ?_;refine hT 12 31 hS0 ?_;refine Op1 13 ?_;go_simp;have hVd : Below w.heap.size w V.drew := HBV.out.trans (Below.refl _ _).drew;refine (lineClone m.t m.a m.c m.b V.drew ((HBS.out.below hVd (Nat.le_refl _)).mono hVd.size)).mono ?_;rintro e w4 ⟨a4, c4, rfl, hown4, hb4⟩;have hb4' : Below V.heap.size V w4 := (show Below V.heap.size V V.drew from (Below.refl _ _).drew).trans hb4;have hs4 := hb4'.size;have hS4 := HSV.out.keep hb4' (by omega) (by omega);have HR4 := Hh ((hb4'.block w.heap.size (by omega)).trans HRV.out);have HB4 := Hh (HBV.out.trans (hb4'.mono (by omega)));have hown4' : w4.ownsRow V.heap.size 5 1 (.slice a4 m.b.length c4) m.b.length (m.b.map bv) := hown4;have HO4 := Hh hown4';refine ⟨hS4, ?_⟩;clear hb4 hb4' hown4 hown4' hVd hS0;refine Op1 14 ?_;refine wp_store_row 40 _ _ rfl w.heap.size #[.int .i64 m.t, .slice a4 m.b.length c4] rfl rfl 40 _ HR4.out infoItem rfl (by simp [Value.oneCell']) ?_;have hbs := below_setRow w4 (cs := #[.int .i64 m.t, .slice a4 m.b.length c4]) (g := w.heap.size) (B := w.heap.size) (by omega);have hS5 := hS4.keep hbs hpl hb;refine ⟨hS5, ?_⟩;refine hT 15 5 hS5 ?_;refine OpE ?_;have hr := setRow_heap w4 w.heap.size _ #[.int .i64 m.t, .slice a4 m.b.length c4] 40 _ HR4.out;have HBF := Hh (HB4.out.trans hbs);have HOF := Hh (World.ownsRow.kept HO4.out (row := some w.heap.size) (w' := w4.setRow w.heap.size #[.int .i64 m.t, .slice a4 m.b.length c4]) ⟨rfl, rfl, rfl, by simp, fun k hk hne => setRow_other _ _ _ _ (fun e => hne (by rw [e]))⟩ (.inr fun e => by have h9 := (own_lt HO4.out e).1; omega));have HRF := Hh hr;clear hr hbs hS4 hS5;go_wp2;refine bodyPost_ret (results_row_tmp rfl _ _ w.heap.size 40 _ (0, 0) _ rfl HRF.out Tryz.underlying40 rfl infoItem) rfl ?_;exact ItemToO.yes (m := m.it) HYES.out HM.out (OwnBs.of_own (n := m.b.length) HOF.out (by omega)) HBF.out
end Go.Proofs.YtogcnfhmcpkdcaaGreat
