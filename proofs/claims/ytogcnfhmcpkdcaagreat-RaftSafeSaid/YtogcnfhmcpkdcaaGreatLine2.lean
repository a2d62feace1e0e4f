/-
  Contract of Line.Add; an item put behind a line's items.
-/
import Derived.Test.YtogcnfhmcpkdcaaGreatLine1
import Derived.Test.YtogcnfhmcpkdcaaGreatFieldW
import Derived.Test.YtogcnfhmcpkdcaaGreatPenLaw
import Derived.Deep.AppendLies
namespace Go.Proofs.YtogcnfhmcpkdcaaGreat
open Go.RowKit
set_option linter.unusedVariables false
set_option linter.unusedSimpArgs false
theorem infoItem3 : (Tryz.prog.info? 40).map (fun i => (i.zero, i.size, i.bytes)) = some (some (.agg #[.int .i64 0, .slice none 0 0]), 2, 32) := by kernel_rfl
theorem infoItems1 : (Tryz.prog.info? 30).map (·.size) = some 1 := by kernel_rfl
theorem ne_types : (40 : Nat) ≠ 105 ∧ (40 : Nat) ≠ 5 ∧ (105 : Nat) ≠ 5 := by decide
theorem own_block {w : World} {base e size n : Nat} {v : Value} {xs : List Value} (h : w.ownsRow base e size v n xs) {g : Nat} (hg : v.ownBlock = some g) : ∃ cur, w.heap[g]? = some (.cells cur e (0, 0)) := by
 rcases h.2 with ⟨rfl, _⟩ | ⟨g', cap, cur, rfl, hb, hh, _⟩
 ·simp [Value.ownBlock] at hg
 ·simp [Value.ownBlock] at hg; subst hg;exact ⟨cur, hh⟩
theorem LineAt.append {A w3 : World} {base p : Nat} {x : PLine} {la : Option Addr} {lc : Nat} {ms : List MItem} (h : LnAt A base p x la lc ms) {m : MItem} (hm : OwnBs 5 A m) {a3 : Option Addr} {c3 : Nat}
  (hown : w3.ownsRow base 40 2 (.slice a3 (ms.length + 1) c3) (ms.length + 1) (cellsM ms ++ m.cells)) (hg : A.grownBy w3 (Value.slice la ms.length lc).ownBlock)
  (hat : (Value.slice a3 (ms.length + 1) c3).ownBlock = (Value.slice la ms.length lc).ownBlock ∨ (Value.slice a3 (ms.length + 1) c3).ownBlock = some A.heap.size) :
  LnAt (w3.setCell ⟨p, 2, none⟩ (.slice a3 (ms.length + 1) c3)) base p ⟨x.base, x.term, x.l ++ [m.it]⟩ a3 c3 (ms ++ [m]) ∧ Turned p (Value.slice la ms.length lc).ownBlock A (w3.setCell ⟨p, 2, none⟩ (.slice a3 (ms.length + 1) c3)) := by
 have hfar := h.far ne_types.1;have hpA := h.lt;have hs := hg.size;have hrow3 : w3.heap[p]? = some (.cells #[.int .i64 x.base, .int .i64 x.term, .slice la ms.length lc] 105 (0, 0)) := (hg.block p hpA (fun e => hfar e.symm)).trans h.row;have hoth : ∀ k, k ≠ p → (w3.setCell ⟨p, 2, none⟩ (.slice a3 (ms.length + 1) c3)).heap[k]? = w3.heap[k]? := fun k hk => Below.heap_setCell _ _ _ k hk
 have hne : (Value.slice a3 (ms.length + 1) c3).ownBlock ≠ some p := by
  rcases hat with e | e
  ·rw [e]; exact hfar
  ·rw [e]; intro e2; injection e2 with e3; omega
 have hlen : (ms ++ [m]).length = ms.length + 1 := by simp
 have hU : ∀ k cs fr, k < A.heap.size → A.heap[k]? = some (.cells cs 5 fr) → (w3.setCell ⟨p, 2, none⟩ (.slice a3 (ms.length + 1) c3)).heap[k]? = A.heap[k]? := fun k cs fr hk hc => by
  have hkp : k ≠ p := fun e => by
   rw [e, h.row] at hc;injection hc with hc
   injection hc with _ e2 _
   exact ne_types.2.2 e2
  have hko : some k ≠ (Value.slice la ms.length lc).ownBlock := fun e => by
   obtain ⟨cur, h9⟩ := own_block h.own e.symm;rw [h9] at hc;injection hc with hc
   injection hc with _ e2 _
   exact ne_types.2.1 e2
  exact (hoth k hkp).trans (hg.block k hk hko)
 refine ⟨⟨?_, ?_, ?_, fun y hy => ?_, h.pb⟩, ⟨hg.os, hg.tape, hg.output, by simpa using hs, fun k hk hkp hko => (hoth k hkp).trans (hg.block k hk hko)⟩⟩
 ·have h9 := heap_setCell_same w3 p 2 _ _ (.slice a3 (ms.length + 1) c3) hrow3;rw [h9, hlen]; rfl
 ·rw [hlen, cellsM_append];refine World.ownsRow.kept (xs := cellsM ms ++ cellsM [m]) hown (row := some p) ⟨rfl, rfl, rfl, by simp, fun k hk hne2 => hoth k (fun e => hne2 (by rw [e]))⟩ (.inr hne)
 ·rw [List.map_append, h.its]; rfl
 ·simp at hy;rcases hy with hy | rfl
  ·exact (h.bs y hy).grown (T := 5) hU (by simpa using hs)
  ·exact hm.grown (T := 5) hU (by simpa using hs)
theorem LineAt.put {A : World} {base p : Nat} {x : PLine} {la : Option Addr} {lc : Nat} {ms : List MItem} (h : LnAt A base p x la lc ms) {a6 : Option Addr} {n6 c6 : Nat} {ms6 : List MItem} (hn : ms6.length = n6)
  (hown : A.ownsRow base 40 2 (.slice a6 n6 c6) n6 (cellsM ms6)) (hne : (Value.slice a6 n6 c6).ownBlock ≠ some p) (hbs : ∀ m ∈ ms6, OwnBs 5 A m) :
  LnAt (A.setCell ⟨p, 2, none⟩ (.slice a6 n6 c6)) base p ⟨x.base, x.term, ms6.map MItem.it⟩ a6 c6 ms6 ∧ ∀ k, k ≠ p → (A.setCell ⟨p, 2, none⟩ (.slice a6 n6 c6)).heap[k]? = A.heap[k]? := by
 subst hn;have hoth : ∀ k, k ≠ p → (A.setCell ⟨p, 2, none⟩ (.slice a6 ms6.length c6)).heap[k]? = A.heap[k]? := fun k hk => Below.heap_setCell _ _ _ k hk
 refine ⟨⟨?_, ?_, rfl, fun y hy => (hbs y hy).grown (T := 5) (fun k cs fr hk hc => hoth k (fun e => ?_)) (by simp), h.pb⟩, hoth⟩
 ·have h9 := heap_setCell_same A p 2 _ _ (.slice a6 ms6.length c6) h.row;rw [h9]; rfl
 ·exact World.ownsRow.kept hown (row := some p) ⟨rfl, rfl, rfl, by simp, fun k hk hne2 => hoth k (fun e => hne2 (by rw [e]))⟩ (.inr hne)
 ·rw [e, h.row] at hc;injection hc with hc
  injection hc with _ e2 _
  exact ne_types.2.2 e2
def LineTo (base p : Nat) (x' : PLine) (o : Option Nat) (w w' : World) : Prop :=
 ∃ la' lc' ms', LnAt w' base p x' la' lc' ms' ∧ Turned p o w w' ∧ ∀ g, (Value.slice la' ms'.length lc').ownBlock = some g → o = some g ∨ w.heap.size ≤ g
theorem LineTo.same {base p : Nat} {x : PLine} {w w' : World} {la : Option Addr} {lc : Nat} {ms : List MItem} (h : LnAt w base p x la lc ms) (hb : Below w.heap.size w w') : LineTo base p x (Value.slice la ms.length lc).ownBlock w w' :=
 ⟨la, lc, ms, h.below hb, Turned.ofBelow hb, fun g e => .inl e⟩
structure AddS (g : Nat) (t : Int) (a : Option Addr) (bn c : Nat) (w' : World) : Prop where
 g0 : w'.cell? ⟨g, 0, none⟩ = some (.int .i64 t)
 g1 : w'.cell? ⟨g, 1, none⟩ = some (.slice a bn c)
theorem AddS.keep {g : Nat} {t : Int} {a : Option Addr} {bn c : Nat} {w w' : World} (h : AddS g t a bn c w) {N : Nat} (hb : Below N w w') (hg : g < N) : AddS g t a bn c w' :=
 ⟨(hb.cell (p := ⟨g, _, none⟩) hg).trans h.g0, (hb.cell (p := ⟨g, _, none⟩) hg).trans h.g1⟩
theorem AddS.far {g : Nat} {t : Int} {a : Option Addr} {bn c : Nat} {w w' : World} (h : AddS g t a bn c w) {row : Option Nat} (hb : w.grownBy w' row) (hg : g < w.heap.size) (hr : row ≠ some g) : AddS g t a bn c w' :=
 ⟨(hb.cell_far ⟨g, _, none⟩ hg (fun e => hr e.symm)).trans h.g0, (hb.cell_far ⟨g, _, none⟩ hg (fun e => hr e.symm)).trans h.g1⟩
theorem AddS.set {g p : Nat} {t : Int} {a : Option Addr} {bn c : Nat} {w : World} (h : AddS g t a bn c w) (hg : g ≠ p) (v : Value) : AddS g t a bn c (w.setCell ⟨p, 2, none⟩ v) :=
 ⟨(World.cell?_setCell_other _ _ _ _ (by intro e; injection e with e1; exact hg e1.symm)).trans h.g0, (World.cell?_setCell_other _ _ _ _ (by intro e; injection e with e1; exact hg e1.symm)).trans h.g1⟩
theorem slAt_item (w : World) (cs : Array Value) (t : TypeId) (size : Nat) (hl : cs.size = size) : SlAt (w.alloc (.cells cs t)) (w.heap.size + 1) size (some ⟨w.heap.size, 0, none⟩) 1 1 cs.toList :=
 ⟨by simp; omega, Nat.le_refl _, by unfold maxLen; omega, fun e => by simp at e, fun _ => ⟨w.heap.size, 0, rfl, by omega, fun i hi => by
  rw [cell_of_row _ w.heap.size (0 + i) cs t (0, 0) (heap_alloc_new w _)]; simp⟩⟩
set_option maxRecDepth 100000 in
set_option maxHeartbeats 4000000 in
theorem lineAdd (base p : Nat) (x : PLine) (hg : x.Good) (la : Option Addr) (lc : Nat) (ms : List MItem) (t : Int) (a : Option Addr) (c : Nat) (b : List UInt8) (w : World) (h : LnAt w base p x la lc ms) (hb : BsAt w w.heap.size a b.length c b) (hbase : base ≤ w.heap.size) :
  Calls Tryz.prog 50 #[.pointer (some ⟨p, 0, none⟩), .agg #[.int .i64 t, .slice a b.length c]] w fun e w' => e = .returned (.int .i64 (x.add (t, b)).2) ∧ LineTo base p (x.add (t, b)).1 (Value.slice la ms.length lc).ownBlock w w' := by
 obtain ⟨i0, hi, hz0, hz1, hz2⟩ := info_parts infoItem3;have hpl := h.lt;have hl := h.len;have h1 := hg.n1;have hb0 := hg.b0;have hb1 := hg.b1;have hn4 : (ms.length : Int) ≤ 4096 := by omega
 have H := Hh h;have HBS := Hh hb;obtain ⟨r, hr⟩ : ∃ r, rightI (t, b) = r := ⟨_, rfl⟩
 have HR := Hh hr;have HBX := Hh ((Below.refl _ w).alloc (Nat.le_refl _) (.cells #[.int .i64 t, .slice a b.length c] 40));cases r with
 | false =>
  have ha : x.add (t, b) = (x, 0) := by unfold PLine.add; rw [if_neg (by rw [hr]; simp)]
  rw [ha];clear h hb hr ha hl h1;go_enter Tryz.func50, Tryz.ntmps50
  go_wp2_with fail;refine (lineRight _ _ _ _ _).mono ?_;rintro e w1 ⟨rfl, hb1⟩;rw [HR.out];have HB1 := Hh (HBX.out.trans (hb1.mono (by simp)));clear hb1;go_wp2;go_ret;exact ⟨rfl, LineTo.same H.out HB1.out⟩
 | true =>
  obtain ⟨f, hf⟩ : ∃ f, fitsB x ((ms.length : Int) + 1) = f := ⟨_, rfl⟩
  have HF := Hh hf;cases f with
  | false =>
   have ha : x.add (t, b) = (x, 0) := by unfold PLine.add; rw [if_neg (by rw [← hl, hf]; simp)]
   rw [ha];clear h hb hr ha hl h1 hf;go_enter Tryz.func50, Tryz.ntmps50
   go_wp2_with fail;refine (lineRight _ _ _ _ _).mono ?_;rintro e w1 ⟨rfl, hbb1⟩;rw [HR.out];have HB1 := Hh (HBX.out.trans (hbb1.mono (by simp)));have H1 := Hh (H.out.below HB1.out);obtain ⟨c0, c1, c2, -⟩ := H1.out.cells;clear hbb1;go_wp2_with fail;refine (lineFits base p x hb0 hb1 la lc ms _ _ H1.out).mono ?_;rintro e w2 ⟨rfl, rfl⟩;rw [HF.out];clear c0 c1 c2;go_wp2;go_ret;exact ⟨rfl, LineTo.same H.out HB1.out⟩
  | true =>
   have ha : x.add (t, b) = (⟨x.base, x.term, x.l ++ [(t, b)]⟩, x.last + 1) := by unfold PLine.add; rw [if_pos ⟨hr, by rw [← hl, hf]⟩]
   have hgood : PLine.Good ⟨x.base, x.term, x.l ++ [(t, b)]⟩ := by have := hg.add (t, b); rwa [ha] at this
   have hlast : PLine.last ⟨x.base, x.term, x.l ++ [(t, b)]⟩ = x.last + 1 := by simp [PLine.last]; omega
   have hbl : b.length ≤ 8192 := ((rightI_iff _).1 hr).2.2;rw [ha];have HGD := Hh hgood;have HLA := Hh hlast;clear h hb hr ha hl h1 hf hgood hlast;go_enter Tryz.func50, Tryz.ntmps50
   go_wp2_with fail;refine (lineRight _ _ _ _ _).mono ?_;rintro e w1 ⟨rfl, hbb1⟩;rw [HR.out];have hs1 := hbb1.size;simp only [World.size_alloc] at hs1;have HB1 := Hh (HBX.out.trans (hbb1.mono (by simp)));have H1 := Hh (H.out.below HB1.out);obtain ⟨c0, c1, c2, -⟩ := H1.out.cells;have HS1 := Hh (show AddS w.heap.size t a b.length c w1 from ⟨by rw [hbb1.cell (p := ⟨w.heap.size, 0, none⟩) (by simp)]; simp [go_sem], by rw [hbb1.cell (p := ⟨w.heap.size, 1, none⟩) (by simp)]; simp [go_sem]⟩);have HBS1 := Hh ((HBS.out.below HB1.out (Nat.le_refl _)).mono HB1.out.size);clear hbb1;go_wp2_with fail;refine (lineFits base p x hb0 hb1 la lc ms _ _ H1.out).mono ?_;rintro e w2 ⟨rfl, rfl⟩;rw [HF.out];clear c0 c1;have C2 := Hh c2;go_wp2;refine OpR (S := AddS w.heap.size t a b.length c) ?_;have hS0 : AddS w.heap.size t a b.length c w1.drew := HS1.out.keep (N := w1.heap.size) (Below.refl _ _).drew (by omega);refine hT 0 19 hS0 ?_;refine hT 1 20 hS0 ?_;refine hT 2 21 hS0 ?_;refine hT 3 22 hS0 ?_;refine hT 5 24 hS0 ?_;refine Op2 4 6 ?_ ?_;rotate_left
   ·skip
    go_simp;refine (lineClone t a c b w1.drew (HBS1.out.below (w' := w1.drew) (Below.refl _ _).drew (Nat.le_refl _))).mono ?_;rintro e w3 ⟨a3, c3, rfl, hown3, hb3⟩;have hs3 : w1.heap.size ≤ w3.heap.size := hb3.size;have hb13 : Below w1.heap.size w1 w3 := (Below.refl _ w1).drew.trans hb3;have HB3 := Hh hb13;have HS3 := Hh (HS1.out.keep hb13 (by omega));have HM3 := Hh (show OwnBs 5 w3 ⟨t, a3, b.length, c3, b⟩ from OwnBs.of_own hown3 (by omega));have p2w : w3.cell? ⟨p, 2, none⟩ = some (.slice la ms.length lc) := (hb13.cell (p := ⟨p, 2, none⟩) (by show p < _; omega)).trans C2.out;clear hb3 hb13 hown3;refine ⟨HS3.out, ?_⟩;refine Op2 4 7 ?_ ?_
    ·skip
     go_simp;refine ⟨HS3.out, ?_⟩;refine Op1 7 ?_;go_simp;obtain ⟨A, hA⟩ : ∃ A, A = w3.alloc (.cells #[.int .i64 t, .slice a3 b.length c3] 40) := ⟨_, rfl⟩
     rw [← hA];have HA := Hh hA;have hbA : Below w3.heap.size w3 A := by rw [hA]; exact (Below.refl _ _).alloc (Nat.le_refl _) _
     have hsA : A.heap.size = w3.heap.size + 1 := by rw [hA]; simp
     have HBA := Hh hbA;have HSA := Hh (HS3.out.keep hbA (by omega));have p2A : A.cell? ⟨p, 2, none⟩ = some (.slice la ms.length lc) := (hbA.cell (p := ⟨p, 2, none⟩) (by show p < _; omega)).trans p2w;clear hA hbA;refine ⟨HSA.out, ?_⟩;have HLA3 := Hh (H1.out.below (HB3.out.trans (HBA.out.mono hs3)));have HSL := Hh (show SlAt A (w3.heap.size + 1) 2 (some ⟨w3.heap.size, 0, none⟩) 1 1 [.int .i64 t, .slice a3 b.length c3] by rw [HA.out]; exact slAt_item w3 #[.int .i64 t, .slice a3 b.length c3] 40 2 rfl);refine Op1 8 ?_;refine wp_append_sl A (.tmp 23) (.tmp 26) 30 rfl base 40 i0 (.agg #[.int .i64 0, .slice none 0 0]) 2 32 Tryz.underlying30 hi hz0 hz1 hz2 rfl (by decide) (.slice la ms.length lc) ms.length (cellsM ms) rfl HLA3.out.own (w3.heap.size + 1) (some ⟨w3.heap.size, 0, none⟩) 1 1 [.int .i64 t, .slice a3 b.length c3] rfl HSL.out (by intro u hu; simp at hu; rcases hu with rfl | rfl <;> rfl) (by unfold maxLen; omega) (by omega) (by omega) ?_;intro a4 c4 w4 hown4 hgrow4 hat4;have hnp : (Value.slice la ms.length lc).ownBlock ≠ some p := H.out.far ne_types.1;have hng : (Value.slice la ms.length lc).ownBlock ≠ some w.heap.size := fun e => by have h9 := (own_lt H.out.own e).2; omega
     have HS4 := Hh (HSA.out.far hgrow4 (by omega) hng);have p2d : w4.cell? ⟨p, 2, none⟩ = some (.slice la ms.length lc) := (hgrow4.cell_far ⟨p, 2, none⟩ (by show p < _; omega) (fun e => hnp e.symm)).trans p2A;have f2d : w4.frozen? ⟨p, 2, none⟩ = false := (hgrow4.frozen_far ⟨p, 2, none⟩ (by show p < _; omega) (fun e => hnp e.symm)).trans (HLA3.out.cells.2.2.2 2);obtain ⟨hln, htu⟩ := HLA3.out.append (m := ⟨t, a3, b.length, c3, b⟩) (HM3.out.below HBA.out) hown4 hgrow4 hat4;have HLN := Hh hln;have HTU := Hh (Turned.ofBelowThen (HB1.out.trans ((HB3.out.trans (HBA.out.mono hs3)).mono (by omega))) htu);have HAT := Hh hat4;refine ⟨HS4.out, ?_⟩;clear hown4 hgrow4 hat4 hln htu hnp hng;refine hT 9 28 HS4.out ?_;refine hT 10 29 HS4.out ?_;refine Op1 11 ?_;refine wp_store_cell 30 (.tmp 29) (.tmp 27) rfl p 2 (.slice a4 (ms.length + 1) c4) _ rfl rfl rfl infoItems1 p2d f2d ?_;refine ⟨HS4.out.set (by omega) _, OpE ?_⟩;clear p2d f2d p2w p2A c2;go_wp2_with fail;refine (linelast base p _ HGD.out a4 c4 _ _ HLN.out).mono ?_;rintro e w6 ⟨rfl, m6, rfl⟩;rw [HLA.out];go_wp2;go_ret;refine ⟨rfl, a4, c4, _, HLN.out.drewN m6, HTU.out.thenBelow (below_drewN _ _), ?_⟩;intro g hg9;rw [show (ms ++ [(⟨t, a3, b.length, c3, b⟩ : MItem)]).length = ms.length + 1 by simp] at hg9;rcases HAT.out with h9 | h9
     ·exact .inl (h9.symm.trans hg9)
     ·rw [h9] at hg9; injection hg9 with e9; exact .inr (by omega)
    ·skip
     go_simp;obtain ⟨A, hA⟩ : ∃ A, A = w3.alloc (.cells #[.int .i64 t, .slice a3 b.length c3] 40) := ⟨_, rfl⟩
     rw [← hA];have HA := Hh hA;have hbA : Below w3.heap.size w3 A := by rw [hA]; exact (Below.refl _ _).alloc (Nat.le_refl _) _
     have hsA : A.heap.size = w3.heap.size + 1 := by rw [hA]; simp
     have HBA := Hh hbA;have HSA := Hh (HS3.out.keep hbA (by omega));have p2A : A.cell? ⟨p, 2, none⟩ = some (.slice la ms.length lc) := (hbA.cell (p := ⟨p, 2, none⟩) (by show p < _; omega)).trans p2w;clear hA hbA;refine ⟨HSA.out, ?_⟩;refine Op1 4 ?_;go_simp;refine ⟨HSA.out, ?_⟩;have HLA3 := Hh (H1.out.below (HB3.out.trans (HBA.out.mono hs3)));have HSL := Hh (show SlAt A (w3.heap.size + 1) 2 (some ⟨w3.heap.size, 0, none⟩) 1 1 [.int .i64 t, .slice a3 b.length c3] by rw [HA.out]; exact slAt_item w3 #[.int .i64 t, .slice a3 b.length c3] 40 2 rfl);refine Op1 8 ?_;refine wp_append_sl A (.tmp 23) (.tmp 26) 30 rfl base 40 i0 (.agg #[.int .i64 0, .slice none 0 0]) 2 32 Tryz.underlying30 hi hz0 hz1 hz2 rfl (by decide) (.slice la ms.length lc) ms.length (cellsM ms) rfl HLA3.out.own (w3.heap.size + 1) (some ⟨w3.heap.size, 0, none⟩) 1 1 [.int .i64 t, .slice a3 b.length c3] rfl HSL.out (by intro u hu; simp at hu; rcases hu with rfl | rfl <;> rfl) (by unfold maxLen; omega) (by omega) (by omega) ?_;intro a4 c4 w4 hown4 hgrow4 hat4;have hnp : (Value.slice la ms.length lc).ownBlock ≠ some p := H.out.far ne_types.1;have hng : (Value.slice la ms.length lc).ownBlock ≠ some w.heap.size := fun e => by have h9 := (own_lt H.out.own e).2; omega
     have HS4 := Hh (HSA.out.far hgrow4 (by omega) hng);have p2d : w4.cell? ⟨p, 2, none⟩ = some (.slice la ms.length lc) := (hgrow4.cell_far ⟨p, 2, none⟩ (by show p < _; omega) (fun e => hnp e.symm)).trans p2A;have f2d : w4.frozen? ⟨p, 2, none⟩ = false := (hgrow4.frozen_far ⟨p, 2, none⟩ (by show p < _; omega) (fun e => hnp e.symm)).trans (HLA3.out.cells.2.2.2 2);obtain ⟨hln, htu⟩ := HLA3.out.append (m := ⟨t, a3, b.length, c3, b⟩) (HM3.out.below HBA.out) hown4 hgrow4 hat4;have HLN := Hh hln;have HTU := Hh (Turned.ofBelowThen (HB1.out.trans ((HB3.out.trans (HBA.out.mono hs3)).mono (by omega))) htu);have HAT := Hh hat4;refine ⟨HS4.out, ?_⟩;clear hown4 hgrow4 hat4 hln htu hnp hng;refine hT 9 28 HS4.out ?_;refine hT 10 29 HS4.out ?_;refine Op1 11 ?_;refine wp_store_cell 30 (.tmp 29) (.tmp 27) rfl p 2 (.slice a4 (ms.length + 1) c4) _ rfl rfl rfl infoItems1 p2d f2d ?_;refine ⟨HS4.out.set (by omega) _, OpE ?_⟩;clear p2d f2d p2w p2A c2;go_wp2_with fail;refine (linelast base p _ HGD.out a4 c4 _ _ HLN.out).mono ?_;rintro e w6 ⟨rfl, m6, rfl⟩;rw [HLA.out];go_wp2;go_ret;refine ⟨rfl, a4, c4, _, HLN.out.drewN m6, HTU.out.thenBelow (below_drewN _ _), ?_⟩;intro g hg9;rw [show (ms ++ [(⟨t, a3, b.length, c3, b⟩ : MItem)]).length = ms.length + 1 by simp] at hg9;rcases HAT.out with h9 | h9
     ·exact .inl (h9.symm.trans hg9)
     ·rw [h9] at hg9; injection hg9 with e9; exact .inr (by omega)
   ·skip
    have HS0 := Hh hS0;clear hS0;go_simp;refine ⟨HS0.out, ?_⟩;refine Op1 6 ?_;go_simp;refine (lineClone t a c b w1.drew (HBS1.out.below (w' := w1.drew) (Below.refl _ _).drew (Nat.le_refl _))).mono ?_;rintro e w3 ⟨a3, c3, rfl, hown3, hb3⟩;have hs3 : w1.heap.size ≤ w3.heap.size := hb3.size;have hb13 : Below w1.heap.size w1 w3 := (Below.refl _ w1).drew.trans hb3;have HB3 := Hh hb13;have HS3 := Hh (HS1.out.keep hb13 (by omega));have HM3 := Hh (show OwnBs 5 w3 ⟨t, a3, b.length, c3, b⟩ from OwnBs.of_own hown3 (by omega));have p2w : w3.cell? ⟨p, 2, none⟩ = some (.slice la ms.length lc) := (hb13.cell (p := ⟨p, 2, none⟩) (by show p < _; omega)).trans C2.out;clear hb3 hb13 hown3;refine ⟨HS3.out, ?_⟩;refine Op1 7 ?_;go_simp;obtain ⟨A, hA⟩ : ∃ A, A = w3.alloc (.cells #[.int .i64 t, .slice a3 b.length c3] 40) := ⟨_, rfl⟩
    rw [← hA];have HA := Hh hA;have hbA : Below w3.heap.size w3 A := by rw [hA]; exact (Below.refl _ _).alloc (Nat.le_refl _) _
    have hsA : A.heap.size = w3.heap.size + 1 := by rw [hA]; simp
    have HBA := Hh hbA;have HSA := Hh (HS3.out.keep hbA (by omega));have p2A : A.cell? ⟨p, 2, none⟩ = some (.slice la ms.length lc) := (hbA.cell (p := ⟨p, 2, none⟩) (by show p < _; omega)).trans p2w;clear hA hbA;refine ⟨HSA.out, ?_⟩;have HLA3 := Hh (H1.out.below (HB3.out.trans (HBA.out.mono hs3)));have HSL := Hh (show SlAt A (w3.heap.size + 1) 2 (some ⟨w3.heap.size, 0, none⟩) 1 1 [.int .i64 t, .slice a3 b.length c3] by rw [HA.out]; exact slAt_item w3 #[.int .i64 t, .slice a3 b.length c3] 40 2 rfl);refine Op1 8 ?_;refine wp_append_sl A (.tmp 23) (.tmp 26) 30 rfl base 40 i0 (.agg #[.int .i64 0, .slice none 0 0]) 2 32 Tryz.underlying30 hi hz0 hz1 hz2 rfl (by decide) (.slice la ms.length lc) ms.length (cellsM ms) rfl HLA3.out.own (w3.heap.size + 1) (some ⟨w3.heap.size, 0, none⟩) 1 1 [.int .i64 t, .slice a3 b.length c3] rfl HSL.out (by intro u hu; simp at hu; rcases hu with rfl | rfl <;> rfl) (by unfold maxLen; omega) (by omega) (by omega) ?_;intro a4 c4 w4 hown4 hgrow4 hat4;have hnp : (Value.slice la ms.length lc).ownBlock ≠ some p := H.out.far ne_types.1;have hng : (Value.slice la ms.length lc).ownBlock ≠ some w.heap.size := fun e => by have h9 := (own_lt H.out.own e).2; omega
    have HS4 := Hh (HSA.out.far hgrow4 (by omega) hng);have p2d : w4.cell? ⟨p, 2, none⟩ = some (.slice la ms.length lc) := (hgrow4.cell_far ⟨p, 2, none⟩ (by show p < _; omega) (fun e => hnp e.symm)).trans p2A;have f2d : w4.frozen? ⟨p, 2, none⟩ = false := (hgrow4.frozen_far ⟨p, 2, none⟩ (by show p < _; omega) (fun e => hnp e.symm)).trans (HLA3.out.cells.2.2.2 2);obtain ⟨hln, htu⟩ := HLA3.out.append (m := ⟨t, a3, b.length, c3, b⟩) (HM3.out.below HBA.out) hown4 hgrow4 hat4;have HLN := Hh hln;have HTU := Hh (Turned.ofBelowThen (HB1.out.trans ((HB3.out.trans (HBA.out.mono hs3)).mono (by omega))) htu);have HAT := Hh hat4;refine ⟨HS4.out, ?_⟩;clear hown4 hgrow4 hat4 hln htu hnp hng;refine hT 9 28 HS4.out ?_;refine hT 10 29 HS4.out ?_;refine Op1 11 ?_;refine wp_store_cell 30 (.tmp 29) (.tmp 27) rfl p 2 (.slice a4 (ms.length + 1) c4) _ rfl rfl rfl infoItems1 p2d f2d ?_;refine ⟨HS4.out.set (by omega) _, OpE ?_⟩;clear p2d f2d p2w p2A c2;go_wp2_with fail;refine (linelast base p _ HGD.out a4 c4 _ _ HLN.out).mono ?_;rintro e w6 ⟨rfl, m6, rfl⟩;rw [HLA.out];go_wp2;go_ret;refine ⟨rfl, a4, c4, _, HLN.out.drewN m6, HTU.out.thenBelow (below_drewN _ _), ?_⟩;intro g hg9;rw [show (ms ++ [(⟨t, a3, b.length, c3, b⟩ : MItem)]).length = ms.length + 1 by simp] at hg9;rcases HAT.out with h9 | h9
    ·exact .inl (h9.symm.trans hg9)
    ·rw [h9] at hg9; injection hg9 with e9; exact .inr (by omega)
end Go.Proofs.YtogcnfhmcpkdcaaGreat
