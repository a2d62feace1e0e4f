/-
  Contracts of the library's Clone and ContainsFunc of items, of Line.Copy and Line.Drop.
  Contract of Line.Join.
  Contracts of Line.From and of the reference's Same.
-/
import Derived.Test.YtogcnfhmcpkdcaaGreatLine2
import Derived.Test.YtogcnfhmcpkdcaaGreatSliceOps
import Derived.BigQuiet
namespace Go.Proofs.YtogcnfhmcpkdcaaGreat
open Go.RowKit
set_option linter.unusedVariables false
set_option linter.unusedSimpArgs false
theorem ownsRow_nilT (w : World) (B size : Nat) (hB : B ≤ w.heap.size) (t : TypeId) : (w.alloc (.cells #[] t)).ownsRow B t size (.slice (some ⟨w.heap.size, 0, none⟩) 0 0) 0 [] :=
 ⟨by simp, .inr ⟨w.heap.size, 0, #[], rfl, hB, heap_alloc_new w _, Nat.le_refl _, by unfold maxLen; omega, by simp, by simp⟩⟩
set_option maxRecDepth 100000 in
set_option maxHeartbeats 2000000 in
theorem cloneItems (cs : List Value) (hcs : ∀ u ∈ cs, u.oneCell' = true) (a : Option Addr) (n c : Nat) (hn : n ≤ 100000) (w : World) (h : SlAt w w.heap.size 2 a n c cs) :
  Calls Tryz.prog 89 #[.slice a n c] w fun e w' => ∃ a' c', e = .returned (.slice a' n c') ∧ w'.ownsRow w.heap.size 40 2 (.slice a' n c') n cs ∧ Below w.heap.size w w' := by
 have qn : ∀ (w : World) (a : Option Addr) (n c n' c' : Nat), (binOp .eql 30 (.slice a n c) (.slice none n' c')).run Tryz.prog w = .ok (.bool a.isNone) w := fun w a n c n' c' => Lib.run_eql_slice_nil w _ _ a n c n' c' Tryz.underlying30
 obtain ⟨i0, hi, hz0, hz1, hz2⟩ := info_parts infoItem3;have H := Hh h;cases a with
 | none =>
  have hc0 := h.hnil rfl;subst hc0;have hn0 : n = 0 := by have := h.hle; omega
  subst hn0;have hl : cs = [] := List.eq_nil_of_length_eq_zero (by have := h.hlen; omega);subst hl;clear h;go_enter Tryz.func89, Tryz.ntmps89
  go_wp2;go_ret;exact ⟨none, 0, rfl, ⟨rfl, .inl ⟨rfl, rfl⟩⟩, Below.refl _ _⟩
 | some ad =>
  clear h;go_enter Tryz.func89, Tryz.ntmps89
  go_wp2_with (at_builtin; refine wpList_append_sl _ rfl (.tmp 5) (.tmp 6) 30 rfl w.heap.size 40 i0 (.agg #[.int .i64 0, .slice none 0 0]) 2 32 Tryz.underlying30 hi hz0 hz1 hz2 rfl (by decide) _ 0 [] rfl (ownsRow_nilT w w.heap.size 2 (Nat.le_refl _) 40) (w.heap.size + 1) (some ad) n c cs rfl ((H.out.below ((Below.refl _ w).alloc (Nat.le_refl _) _) (Nat.le_refl _)).mono (by simp)) hcs (by unfold maxLen; omega) (by omega) (by simp) ?_; intro a5 c5 w5 hown5 hgrow5 hat5);have hown := hown5;simp only [Nat.zero_add, List.nil_append] at hown;have hb : Below w.heap.size w w5 := ((Below.refl _ w).alloc (Nat.le_refl _) (.cells #[] 40)).grown hgrow5 (by simp) (fun k hk => (own_lt (ownsRow_nilT w w.heap.size 2 (Nat.le_refl _) 40) hk).1);go_ret;simp only [Nat.zero_add];exact ⟨a5, c5, rfl, hown, hb⟩
theorem joinRight (t : Int) (a : Option Addr) (c : Nat) (b : List UInt8) (w : World) :
  Calls Tryz.prog 111 #[.agg #[.int .i64 t, .slice a b.length c]] w fun e w' => e = .returned (.bool (!rightI (t, b))) ∧ Below w.heap.size w w' := by
 obtain ⟨r, hr⟩ : ∃ r, rightI (t, b) = r := ⟨_, rfl⟩
 rw [hr];have HR := Hh hr;have HB := Hh ((Below.refl _ w).alloc (Nat.le_refl _) (.cells #[.int .i64 t, .slice a b.length c] 40));clear hr;go_enter Tryz.func111, Tryz.ntmps111
 go_wp2_with fail;refine (lineRight _ _ _ _ _).mono ?_;rintro e w1 ⟨rfl, hb1⟩;rw [HR.out];have HB1 := Hh (HB.out.trans (hb1.mono (by simp)));clear hb1;go_wp2;go_ret;exact ⟨rfl, HB1.out⟩
def anyBad (ms : List MItem) : Bool := ms.any fun m => !rightI m.it
theorem anyBad_take {ms : List MItem} {j : Nat} {m : MItem} (h : ms[j]? = some m) : anyBad (ms.take (j + 1)) = (anyBad (ms.take j) || !rightI m.it) := by
 have hl : j < ms.length := (List.getElem?_eq_some_iff.1 h).1;have e : ms[j] = m := by simpa [List.getElem?_eq_getElem hl] using h
 unfold anyBad;rw [List.take_succ_eq_append_getElem hl, List.any_append, e]
 simp
theorem anyBad_mono {ms : List MItem} {j : Nat} (h : anyBad (ms.take j) = true) : anyBad ms = true := by
 unfold anyBad at *;rw [List.any_eq_true] at *;obtain ⟨m, hm, h2⟩ := h;exact ⟨m, List.mem_of_mem_take hm, h2⟩
set_option maxRecDepth 100000 in
set_option maxHeartbeats 2000000 in
theorem indexItems (ms : List MItem) (a : Option Addr) (n c : Nat) (w : World) (hn : n ≤ 100000) (h : ItemsAt w w.heap.size a n c ms) :
  Calls Tryz.prog 104 #[.slice a n c, .func (.func 111) #[] #[]] w fun e w' => ∃ k : Int, e = .returned (.int .i64 k) ∧ decide (0 ≤ k) = anyBad ms ∧ Below w.heap.size w w' := by
 have hl := h.len;subst hl;have H := Hh h;clear h;go_enter Tryz.func104, Tryz.ntmps104
 go_wp2_with fail;go_loopw [8] (fun iv wr => ∃ j : Nat, j ≤ ms.length ∧ iv = .int .i64 j ∧ anyBad (ms.take j) = false ∧ Below w.heap.size w wr) (fun iv _ => ms.length - (intOf iv).toNat)
 case atStart => exact ⟨0, by omega, rfl, rfl, Below.refl _ _⟩
 case round =>
  obtain ⟨j, hj, rfl, hany, hbel⟩ := hrel;have HAN := Hh hany;have HB := Hh hbel;clear hany;by_cases hlt : j < ms.length
  ·obtain ⟨m, hm⟩ : ∃ m, ms[j]? = some m := ⟨_, List.getElem?_eq_getElem hlt⟩
   obtain ⟨b, o, rfl, hb, k0, k1⟩ := H.out.cell hm;have c0 := (hbel.cell (p := ⟨b, o + j * 2, none⟩) hb).trans k0;have c1 : wr.cell? ⟨b, o + j * 2 + 1, none⟩ = some (.slice m.a m.n m.c) := (hbel.cell (p := ⟨b, o + (j * 2 + 1), none⟩) hb).trans k1;have hmn : m.n = m.b.length := ((H.out.bs m (List.mem_of_getElem? hm)).hlen).symm;rw [hmn] at c1;have hsn := anyBad_take hm;rw [HAN.out, Bool.false_or] at hsn;have HSN := Hh hsn;have HBM := Hh (show anyBad (ms.take (j + 1)) = true → anyBad ms = true from anyBad_mono);have hj0 : (0 : Int) ≤ (j : Int) := by omega
   have hj1 : (j : Int) < (ms.length : Int) := by omega
   have hsz := hbel.size;clear k0 k1 hm hsn hbel hmn;go_wp2_with fail;refine (joinRight m.t m.a m.c m.b _).mono ?_;rintro e w1 ⟨rfl, hb1⟩;have HB1 := Hh (HB.out.trans (hb1.mono hsz));clear hb1 c0 c1;rw [← HSN.out];cases hr : anyBad (ms.take (j + 1))
   ·have HR := Hh hr;clear hr;go_wp2;go_roundw
    case rel => exact ⟨j + 1, by omega, by go_num, HR.out, HB1.out⟩
    case measure => simp [intOf]; omega
   ·have HR := Hh (HBM.out hr);clear hr;go_wp2;go_ret;exact ⟨j, rfl, by rw [HR.out]; simp, HB1.out⟩
  ·have hj' : j = ms.length := by omega
   subst hj';have HA := Hh (show anyBad ms = false by have := HAN.out; rwa [List.take_length] at this);clear hbel;go_wp2;go_ret;exact ⟨-1, rfl, by rw [HA.out]; rfl, HB.out⟩
theorem containsItems (ms : List MItem) (a : Option Addr) (n c : Nat) (w : World) (hn : n ≤ 100000) (h : ItemsAt w w.heap.size a n c ms) :
  Calls Tryz.prog 75 #[.slice a n c, .func (.func 111) #[] #[]] w fun e w' => e = .returned (.bool (anyBad ms)) ∧ Below w.heap.size w w' := by
 have H := Hh h;clear h;go_enter Tryz.func75, Tryz.ntmps75
 go_wp2_with fail;refine (indexItems ms a n c w hn H.out).mono ?_;rintro e w1 ⟨k, rfl, hk, hb⟩;have HB := Hh hb;have HK := Hh hk;clear hk hb;go_wp2;go_ret;exact ⟨ret_bool HK.out, HB.out⟩
end Go.Proofs.YtogcnfhmcpkdcaaGreat
namespace Go.Proofs.YtogcnfhmcpkdcaaGreat
open Go.RowKit
set_option linter.unusedVariables false
set_option linter.unusedSimpArgs false
theorem ItemsAt.from_ {w : World} {B : Nat} {a : Option Addr} {n c : Nat} {ms : List MItem} (h : ItemsAt w B a n c ms) {k : Nat} (hk : k ≤ n) : ItemsAt w B (if c = k then a else a.map (·.add (k * 2))) (n - k) (c - k) (ms.drop k) :=
 ⟨by rw [← cellsM_drop]; exact h.sl.from_ hk, fun m hm => h.bs m (List.mem_of_mem_drop hm)⟩
theorem blk_ne {p c k : Nat} {a : Option Addr} (h : ∀ ad, a = some ad → ad.block ≠ p) : ∀ ad, (if c = k then a else a.map (·.add (k * 2))) = some ad → ad.block ≠ p := by
 intro ad e;by_cases hc : c = k
 ·rw [if_pos hc] at e; exact h ad e
 ·rw [if_neg hc] at e;cases a with
  | none => simp at e
  | some a' =>
   simp at e;subst e;have := h a' rfl;unfold Addr.add;split <;> exact this
theorem ItemsAt.turned {w w' : World} {B p : Nat} {a : Option Addr} {n c : Nat} {ms : List MItem} (h : ItemsAt w B a n c ms) (ht : ∀ k, k < B → k ≠ p → w'.heap[k]? = w.heap[k]?) (hne : ∀ ad, a = some ad → ad.block ≠ p)
  {i j : Int} {v : Value} {T : TypeId} (hv : ∀ z : Int, v ≠ .int .u8 z) (hrow : w.heap[p]? = some (.cells #[.int .i64 i, .int .i64 j, v] T (0, 0))) : ItemsAt w' B a n c ms := by
 refine ⟨⟨h.sl.hlen, h.sl.hle, h.sl.hmax, h.sl.hnil, fun hp => ?_⟩, fun m hm => ?_⟩
 ·obtain ⟨b, o, e, hb, hc⟩ := h.sl.hat hp;exact ⟨b, o, e, hb, fun i hi => (World.cell?_of_block (a := ⟨b, o + i, none⟩) (ht b hb (hne _ e))).trans (hc i hi)⟩
 ·have hbs := h.bs m hm;refine ⟨hbs.hlen, hbs.hle, hbs.hmax, hbs.hnil, hbs.hbig, fun hp => ?_⟩;obtain ⟨b, o, e, hb, hc⟩ := hbs.hat hp;have hbp : b ≠ p := by
   intro e2;have h0 := hc 0 hp;rw [e2, cell_of_row _ _ _ _ _ _ hrow] at h0
   match o, h0 with
   | 0, h0 => simp at h0
   | 1, h0 => simp at h0
   | 2, h0 => simp at h0; exact hv _ h0
   | n + 3, h0 => simp at h0
  exact ⟨b, o, e, hb, fun i hi => (World.cell?_of_block (a := ⟨b, o + i, none⟩) (ht b hb hbp)).trans (hc i hi)⟩
structure JoinAt (x : PLine) (prev : Int) (js : List MItem) (w : World) (p : Nat) (wr : World) (k : Nat) (r : List MItem) (a : Option Addr) (c : Nat) : Prop where
 le : k ≤ js.length
 hr : r = js.drop k
 ub : prev + k ≤ x.last
 df : x.diff (prev + 1) (js.map MItem.it) = x.diff (prev + 1 + k) (r.map MItem.it)
 its : ItemsAt wr w.heap.size a r.length c r
 ne : 0 < r.length → ∀ ad, a = some ad → ad.block ≠ p
 bel : Below w.heap.size w wr
theorem JoinAt.below {x : PLine} {prev : Int} {js : List MItem} {w : World} {p : Nat} {wr w' : World} {k : Nat} {r : List MItem} {a : Option Addr} {c : Nat} (h : JoinAt x prev js w p wr k r a c) (hb : Below wr.heap.size wr w') : JoinAt x prev js w p w' k r a c :=
 ⟨h.le, h.hr, h.ub, h.df, h.its.below (hb.mono h.bel.size) (Nat.le_refl _), h.ne, h.bel.trans (hb.mono h.bel.size)⟩
theorem JoinAt.step {x : PLine} {prev : Int} {js : List MItem} {w : World} {p : Nat} {wr : World} {k : Nat} {m : MItem} {r1 : List MItem} {a : Option Addr} {c : Nat} (h : JoinAt x prev js w p wr k (m :: r1) a c)
  (hm : prev + 1 + k ≤ x.base ∨ x.tm (prev + 1 + k) = m.t) (hl : prev + 1 + k ≤ x.last) : JoinAt x prev js w p wr (k + 1) r1 (if c = 1 then a else a.map (·.add (1 * 2))) (c - 1) := by
 have hk : k < js.length := by
  have := congrArg List.length h.hr;simp at this;omega
 have hr1 : r1 = js.drop (k + 1) := by
  have h9 := h.hr;rw [List.drop_eq_getElem_cons hk] at h9;exact (List.cons.inj h9).2
 refine ⟨by omega, hr1, by omega, ?_, ?_, fun _ => blk_ne (h.ne (by simp)), h.bel⟩
 ·rw [h.df, List.map_cons, PLine.diff_step (by simp) (by simpa using hm)];simp only [List.drop_succ_cons, List.drop_zero];rw [show prev + 1 + (k : Int) + 1 = prev + 1 + ((k + 1 : Nat) : Int) by omega]
 ·have := h.its.from_ (k := 1) (by simp);simpa using this
structure FillAt (x : PLine) (keep : Nat) (rr : List MItem) (w : World) (base p : Nat) (ja : Option Addr) (jc : Nat) (wr : World) (i : Nat) (la : Option Addr) (lc : Nat) (ms : List MItem) : Prop where
 le : i ≤ rr.length
 ln : LnAt wr base p ⟨x.base, x.term, x.l.take keep ++ (rr.take i).map MItem.it⟩ la lc ms
 tu : Turned p none w wr
 nw : ∀ g, (Value.slice la ms.length lc).ownBlock = some g → w.heap.size ≤ g
 its : ItemsAt wr w.heap.size ja rr.length jc rr
theorem FillAt.next {x : PLine} {keep : Nat} {rr : List MItem} {w : World} {base p : Nat} {ja : Option Addr} {jc : Nat} {yr : World} {i : Nat} {la : Option Addr} {lc : Nat} {ms : List MItem} (h : FillAt x keep rr w base p ja jc yr i la lc ms) {mi mx : MItem} (hmi : rr[i]? = some mi) {W : World} {a4 : Option Addr} {c4 N : Nat}
  (hT : Turned p (Value.slice la ms.length lc).ownBlock yr W) (hln : LnAt W base p ⟨x.base, x.term, x.l.take keep ++ (rr.take i).map MItem.it ++ [mi.it]⟩ a4 c4 (ms ++ [mx])) (hN : w.heap.size ≤ N) (hw : w.heap.size ≤ yr.heap.size)
  (hat : (Value.slice a4 (ms.length + 1) c4).ownBlock = (Value.slice la ms.length lc).ownBlock ∨ (Value.slice a4 (ms.length + 1) c4).ownBlock = some N) (hne : ∀ ad, ja = some ad → ad.block ≠ p) : FillAt x keep rr w base p ja jc W (i + 1) a4 c4 (ms ++ [mx]) := by
 have hl : i < rr.length := (List.getElem?_eq_some_iff.1 hmi).1;have e : rr[i] = mi := by simpa [List.getElem?_eq_getElem hl] using hmi
 refine ⟨by omega, ?_, h.tu.trans hT (.inr h.nw), fun g hg => ?_, ?_⟩
 ·rw [List.take_succ_eq_append_getElem hl, List.map_append, ← List.append_assoc, e];exact hln
 ·rw [show (ms ++ [mx]).length = ms.length + 1 by simp] at hg;rcases hat with h9 | h9
  ·exact h.nw g (h9.symm.trans hg)
  ·rw [h9] at hg; injection hg with e9; omega
 ·refine h.its.turned (fun k hk hkp => hT.block k (by omega) hkp (fun e9 => ?_)) hne (fun z e9 => by cases e9) h.ln.row;have := h.nw k e9.symm;omega
theorem anyBad_map (ms : List MItem) : ((ms.map MItem.it).any fun it => !rightI it) = anyBad ms := by
 unfold anyBad;rw [List.any_map]; rfl
theorem anyBad_get {ms : List MItem} (h : anyBad ms = false) {m : MItem} (hm : m ∈ ms) : rightI m.it = true := by
 unfold anyBad at h;rw [List.any_eq_false] at h;have := h m hm;simpa using this
end Go.Proofs.YtogcnfhmcpkdcaaGreat
namespace Go.Proofs.YtogcnfhmcpkdcaaGreat
open Go.RowKit
set_option linter.unusedVariables false
set_option linter.unusedSimpArgs false
structure ItemsOwn (w : World) (base : Nat) (a : Option Addr) (c : Nat) (ms : List MItem) : Prop where
 own : w.ownsRow base 40 2 (.slice a ms.length c) ms.length (cellsM ms)
 bs : ∀ m ∈ ms, OwnBs 5 w m
theorem ItemsOwn.below {w w' : World} {base : Nat} {a : Option Addr} {c : Nat} {ms : List MItem} (h : ItemsOwn w base a c ms) (hb : Below w.heap.size w w') : ItemsOwn w' base a c ms :=
 ⟨own_below' h.own hb, fun m hm => (h.bs m hm).below hb⟩
theorem ItemsOwn.at {w : World} {base : Nat} {a : Option Addr} {c : Nat} {ms : List MItem} (h : ItemsOwn w base a c ms) : ItemsAt w w.heap.size a ms.length c ms := by
 obtain ⟨a', c', e, hs⟩ := SlAt.ofOwns h.own;injection e with e1 _ e2
 subst e1 e2;exact ⟨hs, fun m hm => (h.bs m hm).1⟩
theorem ItemsOwn.next {w w3 w6 : World} {base : Nat} {a : Option Addr} {c : Nat} {ms : List MItem} (h : ItemsOwn w base a c ms) {m : MItem} (hm : OwnBs 5 w m) {a6 : Option Addr} {c6 : Nat}
  (hA : Below w.heap.size w w3) (hown : w6.ownsRow base 40 2 (.slice a6 (ms.length + 1) c6) (ms.length + 1) (cellsM ms ++ m.cells)) (hg : w3.grownBy w6 (Value.slice a ms.length c).ownBlock) : ItemsOwn w6 base a6 c6 (ms ++ [m]) := by
 have hs := hg.size;have hs1 := hA.size;have hU : ∀ k cs fr, k < w.heap.size → w.heap[k]? = some (.cells cs 5 fr) → w6.heap[k]? = w.heap[k]? := fun k cs fr hk hc => by
  have hko : some k ≠ (Value.slice a ms.length c).ownBlock := fun e => by
   obtain ⟨cur, h9⟩ := own_block h.own e.symm;rw [h9] at hc;injection hc with hc
   injection hc with _ e2 _
   exact ne_types.2.1 e2
  exact (hg.block k (by omega) hko).trans (hA.block k hk)
 refine ⟨by rw [show (ms ++ [m]).length = ms.length + 1 by simp, cellsM_append]; exact hown, fun y hy => ?_⟩;simp at hy;rcases hy with hy | rfl
 ·exact (h.bs y hy).grown (T := 5) hU (by omega)
 ·exact hm.grown (T := 5) hU (by omega)
structure FromAt (rr : List MItem) (w W : World) (wr : World) (j : Nat) (a : Option Addr) (c : Nat) (os : List MItem) : Prop where
 le : j ≤ rr.length
 ln : os.length = j
 own : ItemsOwn wr w.heap.size a c os
 its : os.map MItem.it = (rr.take j).map MItem.it
 bel : Below w.heap.size w wr
def FromTo (base : Nat) (out : List PItem) (w : World) (e : Ending) (w' : World) : Prop := ∃ a' c' ms', e = .returned (.slice a' ms'.length c') ∧ ItemsOwn w' w.heap.size a' c' ms' ∧ ms'.map MItem.it = out ∧ Below w.heap.size w w'
theorem own_nil (w : World) : ItemsOwn w w.heap.size none 0 [] := ⟨⟨rfl, .inl ⟨rfl, rfl⟩⟩, by simp⟩
set_option maxRecDepth 100000 in
set_option maxHeartbeats 4000000 in
theorem lineFromA (base p : Nat) (x : PLine) (hg : x.Good) (la : Option Addr) (lc : Nat) (ms : List MItem) (i most : Int) (w : World) (h : LnAt w base p x la lc ms) :
  Calls Tryz.prog 69 #[.pointer (some ⟨p, 0, none⟩), .int .i64 i, .int .i64 most] w (FromTo base (x.from_ i most) w) := by
 obtain ⟨i0, hi, hz0, hz1, hz2⟩ := info_parts infoItem3;obtain ⟨c0, c1, c2, cf⟩ := h.cells;have hl := h.len;have h1 := hg.b0;have h2 := hg.b1;have h3 := hg.n1;have hlast : x.last = x.base + (x.l.length : Int) := rfl;obtain ⟨L, hL⟩ : ∃ L, L = x.last := ⟨_, rfl⟩
 obtain ⟨R, hR⟩ : ∃ R, R = x.from_ i most := ⟨_, rfl⟩
 rw [← hR];have HH := Hh h;have HL := Hh hL;by_cases e0 : i ≤ x.base
 ·have t0 : decide (i ≤ x.base) = true := by simpa using e0
  have hr : R = [] := by rw [hR, PLine.from_, if_pos (.inl e0)]
  subst hr;clear h hl hR hlast hL h3 e0;go_enter Tryz.func69, Tryz.ntmps69
  go_wp2;go_ret;exact ⟨none, 0, [], rfl, own_nil _, rfl, Below.refl _ _⟩
 have t0 : decide (i ≤ x.base) = false := by simpa using e0
 by_cases e1 : L < i
 ·have t1 : decide (L < i) = true := by simpa using e1
  have hr : R = [] := by rw [hR, PLine.from_, if_pos (.inr (.inl (by rw [← hL]; exact e1)))]
  subst hr;clear h hl hR hlast hL h3 e0 e1;go_enter Tryz.func69, Tryz.ntmps69
  go_wp2_with fail;refine (linelast base p x hg la lc ms _ HH.out).mono ?_;rintro e w1 ⟨rfl, m, rfl⟩;rw [← HL.out];go_wp2;go_ret;exact ⟨none, 0, [], rfl, (own_nil w).below (below_drewN _ _), rfl, below_drewN _ _⟩
 have t1 : decide (L < i) = false := by simpa using e1
 by_cases e2 : most < 1
 ·have t2 : decide (most < 1) = true := by simpa using e2
  have hr : R = [] := by rw [hR, PLine.from_, if_pos (.inr (.inr e2))]
  subst hr;clear h hl hR hlast hL h3 e0 e1 e2;go_enter Tryz.func69, Tryz.ntmps69
  go_wp2_with fail;refine (linelast base p x hg la lc ms _ HH.out).mono ?_;rintro e w1 ⟨rfl, m, rfl⟩;rw [← HL.out];go_wp2;go_ret;exact ⟨none, 0, [], rfl, (own_nil w).below (below_drewN _ _), rfl, below_drewN _ _⟩
 have t2 : decide (most < 1) = false := by simpa using e2
 obtain ⟨K, hK⟩ : ∃ K : Nat, i - x.base - 1 = K := ⟨(i - x.base - 1).toNat, by omega⟩
 have hKn : K < ms.length := by omega
 obtain ⟨M, hM⟩ : ∃ M : Nat, most = M := ⟨most.toNat, by omega⟩
 subst hM;obtain ⟨N, hN⟩ : ∃ N : Nat, N = min M (ms.length - K) := ⟨_, rfl⟩
 have hNn : N ≤ ms.length - K := by omega
 have hcn : ms.length ≤ lc := h.sl.sl.hle;obtain ⟨rr, hrr⟩ : ∃ rr, rr = (ms.drop K).take N := ⟨_, rfl⟩
 have hrl : rr.length = N := by rw [hrr]; simp; omega
 have hres : R = rr.map MItem.it := by
  rw [hR, PLine.from_, if_neg (by omega), hK, hrr, List.map_take, List.map_drop, h.its];simp only [Int.toNat_natCast];rw [hN];by_cases hle : M ≤ ms.length - K
  ·rw [Nat.min_eq_left hle]
  ·rw [Nat.min_eq_right (by omega), List.take_of_length_le (l := List.drop K x.l) (by simp; omega), List.take_of_length_le (by simp; omega)]
 obtain ⟨A, hA⟩ : ∃ A, (if lc = K then la else Option.map (fun x => x.add (K * 2)) la) = A := ⟨_, rfl⟩
 have hits : ItemsAt w w.heap.size A N (lc - K) rr := by
  have hf := h.sl.from_ (k := K) (by omega);have hc2 := hf.sl.hle;rw [← hA];refine ⟨?_, fun m hm => ?_⟩
  ·have h9 := hf.sl.upto (k := N) (m := lc - K) (by omega) (by omega) (by omega);rw [cellsM_take] at h9;rw [hrr];exact h9
  ·rw [hrr] at hm;exact hf.bs m (List.mem_of_mem_take hm)
 have wK : IntKind.i64.wrap (K : Int) = K := IntWalk.i64_in _ (by omega);have hKn2 : K ≤ ms.length := by omega
 have hNc : N ≤ lc - K := by omega
 have HIT := Hh hits;have HRS := Hh hres;have HRL := Hh hrl;have s1 : IntKind.i64.wrap (i - x.base) = i - x.base := IntWalk.i64_in _ (by omega);have hbl : ∀ m ∈ rr, m.b.length ≤ 8192 := fun m hm => by
  have hm2 : m ∈ ms := by rw [hrr] at hm; exact List.mem_of_mem_drop (List.mem_of_mem_take hm)
  have hm3 : m.it ∈ x.l := by rw [← h.its]; exact List.mem_map_of_mem hm2
  exact ((rightI_iff _).1 (hg.its _ hm3)).2.2
 have HBL := Hh hbl;have hN4 : (N : Int) ≤ 4096 := by omega
 have hmin : min M (ms.length - K) = N := hN.symm;clear hN;clear h hl hR hlast hL h3 e0 e1 e2 hits hres hrl hrr hbl;go_enter Tryz.func69, Tryz.ntmps69
 go_wp2_with fail;refine (linelast base p x hg la lc ms _ HH.out).mono ?_;rintro e w1 ⟨rfl, m1, rfl⟩;rw [← HL.out];go_wp2_with fail;clear c0 c1 c2 cf;obtain ⟨d0, d1, d2, -⟩ := (HH.out.drewN m1).cells;refine OpR (S := fun w' => w'.cell? ⟨p, 0, none⟩ = some (.int .i64 x.base) ∧ w'.cell? ⟨p, 2, none⟩ = some (.slice la ms.length lc)) ?_;have hS0 : (w.drewN m1).drew.cell? ⟨p, 0, none⟩ = some (.int .i64 x.base) ∧ (w.drewN m1).drew.cell? ⟨p, 2, none⟩ = some (.slice la ms.length lc) := ⟨d0, d2⟩
 refine hT 0 27 hS0 ?_;refine hT 1 28 hS0 ?_;refine hT 2 29 hS0 ?_;refine hT 3 30 hS0 ?_;refine hT 4 31 hS0 ?_;refine hT 5 32 hS0 ?_;refine hT 6 33 hS0 ?_;refine hT 7 34 hS0 ?_;refine hT 8 35 hS0 ?_;refine hT 9 36 hS0 ?_;refine hT 10 37 hS0 ?_;refine hT 11 38 hS0 ?_;refine hT 12 7 hS0 ?_;refine OpE ?_;clear hS0 d0 d1 d2;obtain ⟨W, hW⟩ : ∃ W, W = (w.drewN m1).drew := ⟨_, rfl⟩
 refine (show Exit.then _ _ _ _ (w.drewN m1).drew from ?_);rw [← hW];have hbW : Below w.heap.size w W := by rw [hW]; exact (below_drewN _ _).trans (Below.refl _ _).drew
 have HF0 := Hh (show FromAt rr w W W 0 none 0 [] from ⟨by omega, rfl, (own_nil w).below hbW, by simp, hbW⟩);clear hW hbW;go_wp2_with fail;go_loopw [8, 46] (fun av iv wr => ∃ (j : Nat) (a : Option Addr) (c : Nat) (os : List MItem), av = .slice a j c ∧ iv = .int .i64 j ∧ FromAt rr w W wr j a c os) (fun _ iv _ => N - (intOf iv).toNat)
 case atStart => exact ⟨0, none, 0, [], rfl, rfl, HF0.out⟩
 case round =>
  obtain ⟨j, a, c, os, rfl, rfl, hI⟩ := hrel;have HI := Hh hI;have hjle := hI.le;have hwr := hI.bel.size;have hol := hI.ln;rw [HRL.out] at hjle;clear hI;by_cases hlt : j < N
  ·obtain ⟨mi, hmi⟩ : ∃ mi, rr[j]? = some mi := ⟨_, List.getElem?_eq_getElem (by rw [HRL.out]; exact hlt)⟩
   have hitr : ItemsAt wr w.heap.size A N (lc - K) rr := HIT.out.below HI.out.bel (Nat.le_refl _);obtain ⟨b, o, e9, hb9, k0, k1⟩ := hitr.cell hmi;have hmem : mi ∈ rr := List.mem_of_getElem? hmi;have hbs9 := hitr.bs mi hmem;have hmn : mi.n = mi.b.length := hbs9.hlen.symm;have hbl : mi.b.length ≤ 8192 := HBL.out mi hmem;rw [hmn] at k1;have c0 : wr.cell? ⟨b, o + j * 2, none⟩ = some (.int .i64 mi.t) := k0;have c1 : wr.cell? ⟨b, o + j * 2 + 1, none⟩ = some (.slice mi.a mi.b.length mi.c) := k1;have HBS9 := Hh (show BsAt wr wr.heap.size mi.a mi.b.length mi.c mi.b by rw [← hmn]; exact hbs9.mono hwr);have HMI := Hh hmi;clear k0 k1 hmi hbs9 hmn hmem hitr hA;subst e9;have hi0 : (0 : Int) ≤ (j : Int) := by omega
   have hi1 : (j : Int) < (N : Int) := by omega
   go_wp2_with fail;have hbA : Below wr.heap.size wr (wr.alloc (.cells #[.int .i64 mi.t, .slice mi.a mi.b.length mi.c] 40)) := (Below.refl _ _).alloc (Nat.le_refl _) _;refine (lineClone mi.t mi.a mi.c mi.b _ ((HBS9.out.below hbA (Nat.le_refl _)).mono (by simp))).mono ?_;rintro e w3 ⟨a3, c3, rfl, hown3, hb3⟩;have hs3 := hb3.size;simp only [World.size_alloc] at hs3;have HB3 := Hh (hbA.trans (hb3.mono (by simp)));have HM3 := Hh (show OwnBs 5 w3 ⟨mi.t, a3, mi.b.length, c3, mi.b⟩ from OwnBs.of_own hown3 (by omega));have HO3 := Hh (HI.out.own.below HB3.out);have hoj := HO3.out.own;rw [hol] at hoj;have HOJ := Hh hoj;clear hbA hb3 hown3 hoj c0 c1;go_wp2_with (at_builtin; refine wpList_append_sl _ rfl (.tmp 50) (.tmp 53) 30 rfl w.heap.size 40 i0 (.agg #[.int .i64 0, .slice none 0 0]) 2 32 Tryz.underlying30 hi hz0 hz1 hz2 rfl (by decide) (.slice a j c) j _ rfl (HOJ.out.alloc _) (w3.heap.size + 1) (some ⟨w3.heap.size, 0, none⟩) 1 1 [.int .i64 mi.t, .slice a3 mi.b.length c3] rfl (slAt_item w3 #[.int .i64 mi.t, .slice a3 mi.b.length c3] 40 2 rfl) (by intro u hu; simp at hu; rcases hu with rfl | rfl <;> rfl) (by unfold maxLen; omega) (by omega) (by simp; omega) ?_; intro a6 c6 w6 hown6 hgrow6 hat6);have hbA4 : Below w3.heap.size w3 (w3.alloc (.cells #[.int .i64 mi.t, .slice a3 mi.b.length c3] 40)) := (Below.refl _ _).alloc (Nat.le_refl _) _;have HFN := Hh (show FromAt rr w W w6 (j + 1) a6 c6 (os ++ [⟨mi.t, a3, mi.b.length, c3, mi.b⟩]) from by
    have hln : j < rr.length := by rw [HRL.out]; exact hlt
    have e : rr[j] = mi := by have h9 := HMI.out; simpa [List.getElem?_eq_getElem hln] using h9
    refine ⟨by omega, by simp; omega, ?_, ?_, ?_⟩
    ·exact HO3.out.next (m := ⟨mi.t, a3, mi.b.length, c3, mi.b⟩) HM3.out hbA4 (by rw [hol]; exact hown6) (by rw [hol]; exact hgrow6)
    ·rw [List.take_succ_eq_append_getElem hln, List.map_append, List.map_append, HI.out.its, e]; rfl
    ·refine ((HI.out.bel.trans (HB3.out.mono hwr)).trans (hbA4.mono (by omega))).grown hgrow6 (by simp; omega) (fun k hk => (own_lt HOJ.out hk).1))
   clear hown6 hgrow6 hat6 hbA4;go_wp2;go_roundw
   case rel => exact ⟨j + 1, a6, c6, _, rfl, by go_num, HFN.out⟩
   case measure => simp [intOf]; omega
  ·have hjN : j = N := by omega
   subst hjN;go_wp2;go_ret;subst hol;exact ⟨a, c, os, rfl, HI.out.own, by rw [HI.out.its, HRS.out, List.take_of_length_le (by rw [HRL.out]; omega)], HI.out.bel⟩
end Go.Proofs.YtogcnfhmcpkdcaaGreat
