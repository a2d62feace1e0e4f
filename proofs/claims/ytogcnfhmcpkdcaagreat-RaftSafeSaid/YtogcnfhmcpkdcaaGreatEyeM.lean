/-
  An eye in memory: the cell that holds what is left, and what a reading leaves as it was. No program in sight.
  Contracts of the small functions of layer 4 (field): slices.Clone at bytes, Eye.Left, Eye.Fail, Eye.take.
-/
import Derived.Test.YtogcnfhmcpkdcaaGreatNumM
import Derived.Test.YtogcnfhmcpkdcaaGreatRows
import Derived.Test.YtogcnfhmcpkdcaaGreatShelf
import Derived.Laws.Tables
import Derived.WalkKit
import Derived.WalkLawsBesides
import Derived.Lib.Hide
import Derived.Lib.SliceRun
import Derived.Deep.QuietTactic
import Derived.BigQuiet
import Derived.Deep.DeepMust
import Derived.Deep.DeepFit
namespace Go.Proofs.YtogcnfhmcpkdcaaGreat
open Go.RowKit
set_option linter.unusedVariables false
def EyeAt (w : World) (q : Nat) (l : List UInt8) : Prop :=
 q < w.heap.size ∧ ∃ a n c, w.cell? ⟨q, 0, none⟩ = some (.slice a n c) ∧ w.frozen? ⟨q, 0, none⟩ = false ∧ BsAt w q a n c l
structure But (q : Nat) (w w' : World) : Prop where
 os : w'.os = w.os
 tape : w'.tape = w.tape
 output : w'.output = w.output
 size : w.heap.size ≤ w'.heap.size
 block : ∀ k, k < w.heap.size → k ≠ q → w'.heap[k]? = w.heap[k]?
 cell : ∀ o e, 0 < o → w'.cell? ⟨q, o, e⟩ = w.cell? ⟨q, o, e⟩
theorem But.refl (q : Nat) (w : World) : But q w w := ⟨rfl, rfl, rfl, Nat.le_refl _, fun _ _ _ => rfl, fun _ _ _ => rfl⟩
theorem But.trans {q : Nat} {a b c : World} (h : But q a b) (k : But q b c) : But q a c :=
 ⟨k.os.trans h.os, k.tape.trans h.tape, k.output.trans h.output, Nat.le_trans h.size k.size, fun i hi hq => (k.block i (Nat.lt_of_lt_of_le hi h.size) hq).trans (h.block i hi hq), fun o e ho => (k.cell o e ho).trans (h.cell o e ho)⟩
theorem But.ofBelow {q : Nat} {w w' : World} (hq : q < w.heap.size) (h : Below w.heap.size w w') : But q w w' :=
 ⟨h.os, h.tape, h.output, h.size, fun k hk _ => h.block k hk, fun o e _ => h.cell (p := ⟨q, o, e⟩) hq⟩
theorem But.andBelow {q : Nat} {w w1 w2 : World} (h : But q w w1) (hq : q < w.heap.size) (k : Below w.heap.size w1 w2) : But q w w2 :=
 ⟨k.os.trans h.os, k.tape.trans h.tape, k.output.trans h.output, Nat.le_trans h.size k.size, fun i hi hne => (k.block i hi).trans (h.block i hi hne), fun o e ho => (k.cell (p := ⟨q, o, e⟩) hq).trans (h.cell o e ho)⟩
theorem But.setCell (w : World) (q : Nat) (v : Value) : But q w (w.setCell ⟨q, 0, none⟩ v) :=
 ⟨rfl, rfl, rfl, by simp, fun k _ hq => Below.heap_setCell w _ v k hq, fun o e ho => World.cell?_setCell_other _ _ _ _ (by intro e2; injection e2 with e3 e4; omega)⟩
theorem below_setRow {B g : Nat} (w : World) (cs : Array Value) (hg : B ≤ g) : Below B w (w.setRow g cs) :=
 ⟨rfl, rfl, rfl, by simp, fun k hk => setRow_other _ _ _ _ (by omega)⟩
theorem EyeAt.keep {w w' : World} {q : Nat} {l : List UInt8} (h : EyeAt w q l) (hb : Below (q + 1) w w') : EyeAt w' q l := by
 obtain ⟨hq, a, n, c, h1, h2, h3⟩ := h;exact ⟨Nat.lt_of_lt_of_le hq hb.size, a, n, c, by rw [hb.cell (p := ⟨q, 0, none⟩) (by show q < q + 1; omega)]; exact h1, by rw [hb.frozen (p := ⟨q, 0, none⟩) (by show q < q + 1; omega)]; exact h2, h3.below hb (by omega)⟩
theorem EyeAt.below {w w' : World} {q : Nat} {l : List UInt8} (h : EyeAt w q l) (hb : Below w.heap.size w w') : EyeAt w' q l := by
 obtain ⟨hq, a, n, c, h1, h2, h3⟩ := h;exact ⟨Nat.lt_of_lt_of_le hq hb.size, a, n, c, by rw [hb.cell (p := ⟨q, 0, none⟩) hq]; exact h1, by rw [hb.frozen (p := ⟨q, 0, none⟩) hq]; exact h2, h3.below hb (Nat.le_of_lt hq)⟩
theorem EyeAt.setCell {w : World} {q : Nat} {l r : List UInt8} (h : EyeAt w q l) {a : Option Addr} {n c : Nat} (hr : BsAt w q a n c r) : EyeAt (w.setCell ⟨q, 0, none⟩ (.slice a n c)) q r := by
 obtain ⟨hq, a', n', c', h1, h2, h3⟩ := h;exact ⟨by simpa using hq, a, n, c, World.cell?_setCell_same _ _ _ h1, by simpa using h2, hr.setCell h1 _⟩
end Go.Proofs.YtogcnfhmcpkdcaaGreat
namespace Go.Proofs.YtogcnfhmcpkdcaaGreat
open Go.RowKit
theorem infoU8 : (Tryz.prog.info? 5).map (fun i => (i.zero, i.size, i.bytes)) = some (some (.int .u8 0), 1, 1) := by kernel_rfl
abbrev broke (x : Int) : Ending := .panicked [{ v := .iface 149 (.agg #[.int .i64 x]), recovered := false }]
set_option maxHeartbeats 2000000 in
set_option maxRecDepth 100000 in
theorem cloneB (l : List UInt8) (a : Option Addr) (n c : Nat) (w : World) (h : BsAt w w.heap.size a n c l) :
  Calls Tryz.prog 55 #[.slice a n c] w fun e w' => ∃ a' c', e = .returned (.slice a' n c') ∧ BsAt w' w'.heap.size a' n c' l ∧ Below w.heap.size w w' ∧ w'.ownsRow w.heap.size 5 1 (.slice a' n c') n (l.map bv) := by
 have q22 : ∀ (w : World) (a : Option Addr) (n c n' c' : Nat), (binOp .eql 27 (.slice a n c) (.slice none n' c')).run Tryz.prog w = .ok (.bool a.isNone) w := fun w a n c n' c' => Lib.run_eql_slice_nil w _ _ a n c n' c' Tryz.underlying27
 obtain ⟨hlen, hle, hmax, hnil, hbig, hat⟩ := h;have hm := hmax;unfold maxLen at hm;cases a with
 | none =>
  have hc0 := hnil rfl;subst hc0;have hn0 : n = 0 := by omega
  subst hn0;go_enter Tryz.func55, Tryz.ntmps55
  go_wp2;go_ret;have hl : l = [] := List.eq_nil_of_length_eq_zero hlen;subst hl;exact ⟨none, 0, rfl, BsAt.zero _ _ _ _ (by simp [maxLen]) (fun _ => rfl), Below.refl _ _, ⟨rfl, .inl ⟨rfl, rfl⟩⟩⟩
 | some ad =>
  have hcell : ∀ j u, (l.map bv)[j]? = some u → w.cell? (ad.add j) = some u := by
   intro j u hj;have hjn : j < n := by have := (List.getElem?_eq_some_iff.1 hj).1; simp at this; omega
   obtain ⟨b, o, e, hb, hc⟩ := hat (by omega);simp at e; subst e;rw [Addr.add_lit, hc j hjn, ← hj];simp [List.getElem?_map, List.getD, List.getElem?_eq_getElem (show j < l.length by omega)]
  have A : Aside (∀ j u, (l.map bv)[j]? = some u → w.cell? (ad.add j) = some u) := hcell;clear hcell hat;obtain ⟨i0, hi, hz0, hz1, hz2⟩ := info_parts infoU8;go_enter Tryz.func55, Tryz.ntmps55
  go_wp2_with (at_builtin; refine wpList_append_own _ rfl _ _ 27 rfl w.heap.size 5 i0 (.int .u8 0) 1 1 Tryz.underlying27 hi hz0 hz1 hz2 rfl (by decide) _ _ _ rfl (World.ownsRow_made w #[] 0 (Nat.le_refl _) (Nat.zero_le _) rfl) ad n c (l.map bv) rfl ?qc1 ?qc2 ?qc3 ?qc4 ?qc5 ?qc6 ?_)
  case qc1 => simp; omega
  case qc2 =>
   intro j u hj;exact Lib.cell?_alloc_some _ (A.out j u hj)
  case qc3 => intro u hu; obtain ⟨x, _, rfl⟩ := List.mem_map.1 hu; rfl
  case qc4 => unfold maxLen; omega
  case qc5 => omega
  case qc6 => simp
  intro v' w1 hown hgrow hnil;go_wp2;go_ret;have hown2 : w1.ownsRow w.heap.size 5 1 v' n (l.map bv) := by simpa using hown
  obtain ⟨a', c', rfl, hbs⟩ := bsAt_of_owns hown2 hbig;exact ⟨a', c', rfl, hbs, ((Below.refl _ w).alloc (Nat.le_refl _) _).grown hgrow (by simp) (by intro k hk; simp [Value.ownBlock] at hk; omega), hown2⟩
theorem eyeFail_no (p : Value) (x : Int) (hx : x ≠ 0) (w : World) :
  Calls Tryz.prog 97 #[p, .int .i64 x] w fun e w' => e = broke x ∧ w = w' := by
 have b1 : (x != 0) = true := by simpa using hx
 go_enter Tryz.func97, Tryz.ntmps97
 go_wp2;exact ⟨rfl, rfl, rfl⟩
def EyeTook (q k : Nat) (l : List UInt8) (w : World) (e : Ending) (w' : World) : Prop := But q w w' ∧
   (l.length < k → e = broke 2) ∧
   (k ≤ l.length → ∃ a, e = .returned (.slice a k k) ∧ BsAt w' q a k k (l.take k) ∧ EyeAt w' q (l.drop k))
theorem eyeTake (q k : Nat) (l : List UInt8) (w : World) (h : EyeAt w q l) :
  Calls Tryz.prog 116 #[.pointer (some ⟨q, 0, none⟩), .int .i64 k] w fun e w' => EyeTook q k l w e w' := by
 have he := h;obtain ⟨hq, a, n, c, hp, hz, hs⟩ := h;have hl := hs.hlen;have hle := hs.hle;have HS := Hh hs;have HE := Hh he;clear hs he;by_cases hk : k ≤ n
 ·have b1 : decide ((n : Int) < k) = false := by simp; omega
  have hR : ∀ (v : Value) (a2 a1 : Option Addr) (n2 c2 : Nat), v = .slice a1 k k → BsAt w q a1 k k (l.take k) → BsAt w q a2 n2 c2 (l.drop k) →
    EyeTook q k l w (.returned v) (w.setCell ⟨q, 0, none⟩ (.slice a2 n2 c2)) := by
   intro v a2 a1 n2 c2 hv hh1 hh2;exact ⟨But.setCell _ _ _, fun hlt => by omega, fun _ => ⟨a1, by rw [hv], hh1.setCell hp _, HE.out.setCell hh2⟩⟩
  have HR := Hh hR;clear hR;cases a with
  | none =>
   have hc0 := HS.out.hnil rfl;subst hc0;have hn0 : n = 0 := by omega
   subst hn0;have hk0 : k = 0 := by omega
   subst hk0;go_enter Tryz.func116, Tryz.ntmps116
   go_wp2;go_ret;refine HR.out _ _ _ _ _ rfl (HS.out.take (Nat.le_refl _)) (by simpa using HS.out)
  | some ad =>
   have hmx := HS.out.hmax;by_cases h0 : n = 0
   ·subst h0;have hk0 : k = 0 := by omega
    subst hk0;have hl0 : l = [] := List.eq_nil_of_length_eq_zero HS.out.hlen;subst hl0;go_enter Tryz.func116, Tryz.ntmps116
    go_wp2
    all_goals go_ret
    all_goals exact HR.out _ _ _ _ _ rfl (BsAt.zero _ _ _ _ (by simp [maxLen]) (fun e => by simp at e)) (BsAt.zero _ _ _ _ (by omega) (fun e => by simp at e))
   ·obtain ⟨b, o, e, _, _⟩ := HS.out.hat (by omega);simp at e; subst e;go_enter Tryz.func116, Tryz.ntmps116
    go_wp2
    ·rename_i hck
     go_ret;have hk1 : k = n := by omega
     have hl0 : l.drop k = [] := by simp; omega
     refine HR.out _ _ _ _ _ rfl (HS.out.take (by omega)) ?_;rw [hl0, show n - k = 0 by omega];exact BsAt.zero _ _ _ _ (by omega) (fun e => by simp at e)
    ·go_ret;exact HR.out _ _ _ _ _ rfl (HS.out.take (by omega)) (HS.out.drop (by omega))
 ·have b1 : decide ((n : Int) < k) = true := by simp; omega
  go_enter Tryz.func116, Tryz.ntmps116
  go_wp2_with fail;refine (eyeFail_no _ 2 (by decide) _).mono ?_;rintro e w1 ⟨rfl, rfl⟩;go_wp2;exact ⟨rfl, But.refl _ _, fun _ => rfl, fun hh => by omega⟩
end Go.Proofs.YtogcnfhmcpkdcaaGreat
