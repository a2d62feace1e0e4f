/-
  The plain law of RaftSafe: ghosts, majorities, and what each turning of the ghosts keeps. No walk.
  The plain law of RaftSafe: the turnings of the ghosts: a term begins, one stands, votes, leads, appends, follows. No walk.
  The plain law of RaftSafe: the turnings of the ghosts: a leader appends, a replica follows. No walk.
  The plain law of RaftSafe: a replica's line is a full line from its base on. No walk.
  The plain law of RaftSafe: what holds of a replica and of a letter; looking, sending, leading. No walk.
  The plain law of RaftSafe: a replica looks what is agreed, sends, leads, counts votes, stands. No walk.
  The plain law of RaftSafe: a replica leads, counts, stands, ticks; it gets a proposal, compacts, begins anew. No walk.
  The plain law of RaftSafe: a replica stands, ticks; it gets a proposal, compacts, begins anew. No walk.
  The plain law of RaftSafe: a letter comes to a replica. No walk.
  The plain law of RaftSafe: a letter of a leader comes, an answer comes; all letters. No walk.
  The plain law of RaftSafe: a line is given, an answer comes; all letters. No walk.
  The plain law of RaftSafe: where a replica has handed out to is turned by a given line alone. No walk.
  The plain law of RaftSafe: the group; what is collected of a replica keeps all that holds. No walk.
  The plain law of RaftSafe: behind an act and its collecting all holds again. No walk.
  The plain law of RaftSafe: each step keeps all that holds; how it begins. No walk.
-/
import Derived.Test.YtogcnfhmcpkdcaaGreatRaftLaw3
import Derived.Test.YtogcnfhmcpkdcaaGreatRaftM6
import Derived.Test.YtogcnfhmcpkdcaaGreatGrC
namespace Go.Proofs.YtogcnfhmcpkdcaaGreat
open Go.RowKit
set_option linter.unusedVariables false
set_option linter.unusedSimpArgs false
def cntP (n : Nat) (p : Nat → Bool) : Nat := ((List.range n).filter p).length
def Maj (n : Nat) (p : Nat → Bool) : Prop := n / 2 + 1 ≤ cntP n p
theorem cntP_succ (n : Nat) (p : Nat → Bool) : cntP (n + 1) p = cntP n p + (if p n = true then 1 else 0) := by
 unfold cntP;rw [List.range_succ, List.filter_append, List.length_append]
 congr 1
 cases h : p n <;> simp [h]
theorem cntP_mono {n : Nat} {p q : Nat → Bool} (h : ∀ k, k < n → p k = true → q k = true) : cntP n p ≤ cntP n q := by
 induction n with
 | zero => simp [cntP]
 | succ n ih =>
  rw [cntP_succ, cntP_succ];have h1 := ih (fun k hk => h k (by omega));by_cases hp : p n = true
  ·rw [if_pos hp, if_pos (h n (by omega) hp)]; omega
  ·rw [if_neg hp]; split <;> omega
theorem cntP_and (n : Nat) (p q : Nat → Bool) : cntP n p + cntP n q ≤ n + cntP n (fun k => p k && q k) := by
 induction n with
 | zero => simp [cntP]
 | succ n ih =>
  rw [cntP_succ, cntP_succ, cntP_succ];cases hp : p n <;> cases hq : q n <;> simp <;> omega
theorem cntP_pos {n : Nat} {p : Nat → Bool} (h : 0 < cntP n p) : ∃ k, k < n ∧ p k = true := by
 induction n with
 | zero => simp [cntP] at h
 | succ n ih =>
  rw [cntP_succ] at h;by_cases hp : p n = true
  ·exact ⟨n, by omega, hp⟩
  ·rw [if_neg hp] at h;obtain ⟨k, h1, h2⟩ := ih (by omega);exact ⟨k, by omega, h2⟩
theorem maj_meet {n : Nat} {p q : Nat → Bool} (hp : Maj n p) (hq : Maj n q) : ∃ k, k < n ∧ p k = true ∧ q k = true := by
 have h1 := cntP_and n p q;unfold Maj at hp hq;obtain ⟨k, h2, h3⟩ := cntP_pos (n := n) (p := fun k => p k && q k) (by omega);simp only [Bool.and_eq_true] at h3;exact ⟨k, h2, h3.1, h3.2⟩
theorem maj_mono {n : Nat} {p q : Nat → Bool} (hp : Maj n p) (h : ∀ k, k < n → p k = true → q k = true) : Maj n q := Nat.le_trans hp (cntP_mono h)
def tmL (l : List PItem) (i : Nat) : Int := if i = 0 then 0 else (l.getD (i - 1) (0, [])).1
theorem tmL_take {a b : List PItem} {i j : Nat} (h : a.take i = b.take i) (hj : j ≤ i) : tmL a j = tmL b j := by
 unfold tmL;by_cases h0 : j = 0
 ·rw [if_pos h0, if_pos h0]
 ·rw [if_neg h0, if_neg h0];have h1 : ∀ l : List PItem, l.getD (j - 1) (0, []) = (l.take i).getD (j - 1) (0, []) := fun l => by
   rw [List.getD_eq_getElem?_getD, List.getD_eq_getElem?_getD, List.getElem?_take_of_lt (by omega)]
  rw [h1 a, h1 b, h]
theorem take_le {a b : List PItem} {i j : Nat} (h : a.take i = b.take i) (hj : j ≤ i) : a.take j = b.take j := by
 have h1 := congrArg (List.take j) h
 rwa [List.take_take, List.take_take, Nat.min_eq_left hj] at h1
theorem take_pre {a b : List PItem} {i : Nat} (h : a <+: b) (hi : i ≤ a.length) : b.take i = a.take i := by
 obtain ⟨c, rfl⟩ := h;rw [List.take_append_of_le_length hi]
theorem tmL_pre {a b : List PItem} {i : Nat} (h : a <+: b) (hi : i ≤ a.length) : tmL b i = tmL a i := tmL_take (take_pre h hi) (Nat.le_refl _)
structure Gh where
 fl : Nat → List PItem
 gl : Int → List PItem
 ldr : Int → Option Nat
 ack : Nat → Int → Nat
 vote : Nat → Int → Option Nat
 cl : Nat → Int → List PItem
 bt : Nat → Int
 cnt : Nat
 sn : Nat
section
variable {n : Nat} {g g' : Gh}
def Gh.Chosen (g : Gh) (n : Nat) (T : Int) (i : Nat) : Prop := g.ldr T ≠ none ∧ 1 ≤ i ∧ i ≤ (g.gl T).length ∧ tmL (g.gl T) i = T ∧ Maj n (fun k => decide (i ≤ g.ack k T))
def Gh.Blocked (g : Gh) (n : Nat) (T : Int) (i : Nat) : Prop := Maj n (fun k => decide (T < g.bt k ∧ g.ack k T < i))
theorem Gh.not_both {T : Int} {i : Nat} (h : g.Chosen n T i) (h2 : g.Blocked n T i) : False := by
 obtain ⟨k, -, h3, h4⟩ := maj_meet h.2.2.2.2 h2;simp only [decide_eq_true_eq] at h3 h4;omega
def Gh.Lm (g : Gh) (T : Int) (l : List PItem) (i : Nat) : Prop := 1 ≤ tmL l i ∧ tmL l i ≤ T ∧ g.ldr (tmL l i) ≠ none ∧ i ≤ (g.gl (tmL l i)).length ∧ l.take i = (g.gl (tmL l i)).take i
def Gh.Has (g : Gh) (n : Nat) (l : List PItem) (T : Int) (i : Nat) : Prop := (i ≤ l.length ∧ l.take i = (g.gl T).take i) ∨ g.Blocked n T i
structure Gh.Ok (g : Gh) (n : Nat) : Prop where
 gline : ∀ T, g.ldr T ≠ none → ∀ i, 1 ≤ i → i ≤ (g.gl T).length → g.Lm T (g.gl T) i
 fline : ∀ j, j < n → ∀ i, 1 ≤ i → i ≤ (g.fl j).length → g.Lm (g.bt j) (g.fl j) i
 cline : ∀ c T, c < n → ∀ i, 1 ≤ i → i ≤ (g.cl c T).length → g.Lm (T - 1) (g.cl c T) i
 ackle : ∀ k T, k < n → 0 < g.ack k T → g.ldr T ≠ none ∧ T ≤ g.bt k ∧ g.ack k T ≤ (g.gl T).length
 ackNow : ∀ k, k < n → (g.fl k).take (g.ack k (g.bt k)) = (g.gl (g.bt k)).take (g.ack k (g.bt k)) ∧ g.ack k (g.bt k) ≤ (g.fl k).length
 ackOld : ∀ k T i, k < n → T < g.bt k → g.ldr T ≠ none → 1 ≤ i → i ≤ g.ack k T → tmL (g.gl T) i = T → g.Has n (g.fl k) T i
 votes : ∀ k T c, k < n → g.vote k T = some c → T ≤ g.bt k ∧ 1 ≤ T ∧ c < n ∧ T ≤ g.bt c
 voter : ∀ k c T T0 i, k < n → g.vote k T = some c → T0 < T → g.ldr T0 ≠ none → 1 ≤ i → i ≤ g.ack k T0 → tmL (g.gl T0) i = T0 → g.Has n (g.cl c T) T0 i
 elect : ∀ T T0 i, g.ldr T ≠ none → g.ldr T0 ≠ none → T0 < T → 1 ≤ i → i ≤ (g.gl T0).length → tmL (g.gl T0) i = T0 → g.Has n (g.gl T) T0 i
 ldrMaj : ∀ T c, g.ldr T = some c → Maj n (fun k => decide (g.vote k T = some c))
 ldrBt : ∀ T c, g.ldr T = some c → T ≤ g.bt c ∧ 1 ≤ T ∧ c < n
 fb : ∀ k, k < n → (g.fl k).length ≤ g.cnt ∧ ∀ it ∈ g.fl k, it.2.length ≤ 50
 gb : ∀ T, g.ldr T ≠ none → (g.gl T).length ≤ g.cnt ∧ ∀ it ∈ g.gl T, it.2.length ≤ 50
structure Gh.Ext (g g' : Gh) (n : Nat) : Prop where
 ldr : ∀ T c, g.ldr T = some c → g'.ldr T = some c
 gl : ∀ T, g.ldr T ≠ none → g.gl T <+: g'.gl T
 ack : ∀ k T, k < n → g.ack k T ≤ g'.ack k T
 old : ∀ k T, k < n → T < g.bt k → g'.ack k T = g.ack k T
 bt : ∀ k, k < n → g.bt k ≤ g'.bt k
 vote : ∀ k T c, k < n → g.vote k T = some c → g'.vote k T = some c
 cl : ∀ k T, k < n → T ≤ g.bt k → g'.cl k T = g.cl k T
 sn : g.sn ≤ g'.sn
theorem Gh.Ext.refl (g : Gh) (n : Nat) : g.Ext g n := ⟨fun _ _ h => h, fun _ _ => List.prefix_refl _, fun _ _ _ => Nat.le_refl _, fun _ _ _ _ => rfl, fun _ _ => Int.le_refl _, fun _ _ _ _ h => h, fun _ _ _ _ => rfl, Nat.le_refl _⟩
theorem Gh.Ext.ldrn (h : g.Ext g' n) {T : Int} (hT : g.ldr T ≠ none) : g'.ldr T ≠ none := by
 cases hl : g.ldr T with
 | none => exact absurd hl hT
 | some c => rw [h.ldr T c hl]; exact fun e => by cases e
theorem Gh.Ext.trans {g'' : Gh} (h : g.Ext g' n) (k : g'.Ext g'' n) : g.Ext g'' n :=
 ⟨fun T c hl => k.ldr T c (h.ldr T c hl), fun T hT => (h.gl T hT).trans (k.gl T (h.ldrn hT)), fun x T hx => Nat.le_trans (h.ack x T hx) (k.ack x T hx), fun x T hx hT => (k.old x T hx (by have := h.bt x hx; omega)).trans (h.old x T hx hT), fun x hx => Int.le_trans (h.bt x hx) (k.bt x hx), fun x T c hx hv => k.vote x T c hx (h.vote x T c hx hv), fun x T hx hT => (k.cl x T hx (by have := h.bt x hx; omega)).trans (h.cl x T hx hT), Nat.le_trans h.sn k.sn⟩
theorem Gh.Ext.chosen (h : g.Ext g' n) {T : Int} {i : Nat} (hc : g.Chosen n T i) : g'.Chosen n T i := by
 obtain ⟨h1, h2, h3, h4, h5⟩ := hc;refine ⟨h.ldrn h1, h2, Nat.le_trans h3 (h.gl T h1).length_le, (tmL_pre (h.gl T h1) h3).trans h4, maj_mono h5 fun k hk hp => ?_⟩;simp only [decide_eq_true_eq] at hp ⊢;have := h.ack k T hk;omega
theorem Gh.Ext.blocked (h : g.Ext g' n) {T : Int} {i : Nat} (hc : g.Blocked n T i) : g'.Blocked n T i := maj_mono hc fun k hk hp => by
 simp only [decide_eq_true_eq] at hp ⊢;rw [h.old k T hk hp.1];have := h.bt k hk;omega
theorem Gh.Ext.lm (h : g.Ext g' n) {T T' : Int} {l : List PItem} {i : Nat} (hT : T ≤ T') (hl : g.Lm T l i) : g'.Lm T' l i := by
 obtain ⟨h1, h2, h3, h4, h5⟩ := hl;exact ⟨h1, by omega, h.ldrn h3, Nat.le_trans h4 (h.gl _ h3).length_le, h5.trans (take_pre (h.gl _ h3) h4).symm⟩
theorem Gh.Ext.has (h : g.Ext g' n) {l : List PItem} {T : Int} {i : Nat} (hT : g.ldr T ≠ none) (hi : i ≤ (g.gl T).length) (hh : g.Has n l T i) : g'.Has n l T i := by
 rcases hh with ⟨h1, h2⟩ | h1
 ·exact .inl ⟨h1, h2.trans (take_pre (h.gl T hT) hi).symm⟩
 ·exact .inr (h.blocked h1)
theorem Gh.Ok.ldrOne (h : g.Ok n) {T : Int} {c : Nat} (hm : Maj n (fun k => decide (g.vote k T = some c))) {d : Nat} (hd : g.ldr T = some d) : d = c := by
 obtain ⟨k, -, h1, h2⟩ := maj_meet hm (h.ldrMaj T d hd);simp only [decide_eq_true_eq] at h1 h2;rw [h1] at h2;injection h2 with h2
 exact h2.symm
theorem Gh.Ok.grows (h : g.Ok n) {T : Int} {l : List PItem} (hl : ∀ i, 1 ≤ i → i ≤ l.length → g.Lm T l i) {i k : Nat} (hi : 1 ≤ i) (hik : i ≤ k) (hk : k ≤ l.length) : tmL l i ≤ tmL l k := by
 obtain ⟨h1, h2, h3, h4, h5⟩ := hl k (by omega) hk;rw [tmL_take h5 hik];exact (h.gline _ h3 i hi (by omega)).2.1
theorem Gh.same {T T' : Int} {l l' : List PItem} {i : Nat} (hl : g.Lm T l i) (hl' : g.Lm T' l' i) (he : tmL l i = tmL l' i) : l.take i = l'.take i := by
 rw [hl.2.2.2.2, hl'.2.2.2.2, he]
theorem Gh.Ok.kept (h : g.Ok n) {T T0 : Int} {i : Nat} (hc : g.Chosen n T0 i) (hT : g.ldr T ≠ none) (hlt : T0 ≤ T) : i ≤ (g.gl T).length ∧ (g.gl T).take i = (g.gl T0).take i := by
 by_cases he : T0 = T
 ·subst he; exact ⟨hc.2.2.1, rfl⟩
 ·rcases h.elect T T0 i hT hc.1 (by omega) hc.2.1 hc.2.2.1 hc.2.2.2.1 with h9 | h9
  ·exact h9
  ·exact (Gh.not_both hc h9).elim
theorem Gh.Ok.chosen2 (h : g.Ok n) {T T0 : Int} {i i0 : Nat} (hc : g.Chosen n T i) (hc0 : g.Chosen n T0 i0) {m : Nat} (hm : m ≤ i) (hm0 : m ≤ i0) : (g.gl T).take m = (g.gl T0).take m := by
 by_cases hlt : T0 ≤ T
 ·exact take_le (h.kept hc0 hc.1 hlt).2 hm0
 ·exact (take_le (h.kept hc hc0.1 (by omega)).2 hm).symm
end
end Go.Proofs.YtogcnfhmcpkdcaaGreat
namespace Go.Proofs.YtogcnfhmcpkdcaaGreat
open Go.RowKit
set_option linter.unusedVariables false
set_option linter.unusedSimpArgs false
def setN {α : Type} (f : Nat → α) (j : Nat) (x : α) : Nat → α := fun k => if k = j then x else f k
def setT {α : Type} (f : Int → α) (T : Int) (x : α) : Int → α := fun U => if U = T then x else f U
def setNT {α : Type} (f : Nat → Int → α) (j : Nat) (T : Int) (x : α) : Nat → Int → α := fun k U => if k = j ∧ U = T then x else f k U
theorem setN_same {α : Type} (f : Nat → α) (j : Nat) (x : α) : setN f j x j = x := if_pos rfl
theorem setN_other {α : Type} (f : Nat → α) {j k : Nat} (x : α) (h : k ≠ j) : setN f j x k = f k := if_neg h
theorem setT_same {α : Type} (f : Int → α) (T : Int) (x : α) : setT f T x T = x := if_pos rfl
theorem setT_other {α : Type} (f : Int → α) {T U : Int} (x : α) (h : U ≠ T) : setT f T x U = f U := if_neg h
theorem setNT_same {α : Type} (f : Nat → Int → α) (j : Nat) (T : Int) (x : α) : setNT f j T x j T = x := if_pos ⟨rfl, rfl⟩
theorem setNT_other {α : Type} (f : Nat → Int → α) {j k : Nat} {T U : Int} (x : α) (h : ¬ (k = j ∧ U = T)) : setNT f j T x k U = f k U := if_neg h
section
variable {n j : Nat} {g g' : Gh}
structure Gh.Step (g g' : Gh) (n j : Nat) : Prop where
 ext : g.Ext g' n
 fl : ∀ k, k ≠ j → g'.fl k = g.fl k
 bt : ∀ k, k ≠ j → g'.bt k = g.bt k
 vote : ∀ k T, k ≠ j → g'.vote k T = g.vote k T
 cl : ∀ k T, k ≠ j → g'.cl k T = g.cl k T
 ack : ∀ k T, k ≠ j → g'.ack k T = g.ack k T
 gl : ∀ T, g'.ldr T ≠ some j → g'.gl T = g.gl T ∧ g'.ldr T = g.ldr T
 sn : g'.sn = g.sn
theorem Gh.Step.refl (g : Gh) (n j : Nat) : g.Step g n j := ⟨.refl g n, fun _ _ => rfl, fun _ _ => rfl, fun _ _ _ => rfl, fun _ _ _ => rfl, fun _ _ _ => rfl, fun _ _ => ⟨rfl, rfl⟩, rfl⟩
theorem Gh.Step.trans {g'' : Gh} (h : g.Step g' n j) (k : g'.Step g'' n j) : g.Step g'' n j :=
 ⟨h.ext.trans k.ext, fun x hx => (k.fl x hx).trans (h.fl x hx), fun x hx => (k.bt x hx).trans (h.bt x hx), fun x T hx => (k.vote x T hx).trans (h.vote x T hx), fun x T hx => (k.cl x T hx).trans (h.cl x T hx), fun x T hx => (k.ack x T hx).trans (h.ack x T hx), fun T hT => by
  obtain ⟨h1, h2⟩ := k.gl T hT;obtain ⟨h3, h4⟩ := h.gl T (by rw [← h2]; exact hT);exact ⟨h1.trans h3, h2.trans h4⟩, k.sn.trans h.sn⟩
theorem Gh.Ok.ack0 (h : g.Ok n) {k : Nat} {T : Int} (hk : k < n) (hT : g.bt k < T) : g.ack k T = 0 := by
 rcases Nat.eq_zero_or_pos (g.ack k T) with h9 | h9
 ·exact h9
 ·have := (h.ackle k T hk h9).2.1; omega
theorem Gh.Ok.ackn (h : g.Ok n) {k : Nat} {T : Int} (hk : k < n) (hT : g.ldr T = none) : g.ack k T = 0 := by
 rcases Nat.eq_zero_or_pos (g.ack k T) with h9 | h9
 ·exact h9
 ·exact absurd hT (h.ackle k T hk h9).1
theorem Gh.Ok.voten (h : g.Ok n) {k : Nat} {T : Int} (hk : k < n) (hT : g.bt k < T) : g.vote k T = none := by
 cases hv : g.vote k T with
 | none => rfl
 | some c => have := (h.votes k T c hk hv).1; omega
theorem Gh.Ok.ackAll (h : g.Ok n) {k i : Nat} {T : Int} (hk : k < n) (hT : g.ldr T ≠ none) (hi : 1 ≤ i) (ha : i ≤ g.ack k T) (ht : tmL (g.gl T) i = T) : g.Has n (g.fl k) T i := by
 have h1 := (h.ackle k T hk (by omega)).2.1;by_cases he : T = g.bt k
 ·subst he;obtain ⟨h2, h3⟩ := h.ackNow k hk;exact .inl ⟨by omega, take_le h2 ha⟩
 ·exact h.ackOld k T i hk (by omega) hT hi ha ht
def Gh.term (g : Gh) (j : Nat) (t : Int) : Gh := { g with bt := setN g.bt j t }
theorem Gh.term_ext (h : g.Ok n) {t : Int} (ht : g.bt j < t) : g.Ext (g.term j t) n :=
 ⟨fun _ _ h => h, fun _ _ => List.prefix_refl _, fun _ _ _ => Nat.le_refl _, fun _ _ _ _ => rfl, fun k _ => by
  show g.bt k ≤ setN g.bt j t k;by_cases e : k = j
  ·subst e; rw [setN_same]; omega
  ·rw [setN_other _ _ e]; exact Int.le_refl _, fun _ _ _ _ h => h, fun _ _ _ _ => rfl, Nat.le_refl _⟩
theorem Gh.term_step (h : g.Ok n) {t : Int} (ht : g.bt j < t) : g.Step (g.term j t) n j :=
 ⟨Gh.term_ext h ht, fun _ _ => rfl, fun k hk => setN_other _ _ hk, fun _ _ _ => rfl, fun _ _ _ => rfl, fun _ _ _ => rfl, fun _ _ => ⟨rfl, rfl⟩, rfl⟩
theorem Gh.term_ok (h : g.Ok n) {t : Int} (ht : g.bt j < t) : (g.term j t).Ok n := by
 have hx := Gh.term_ext h ht;have hbt : ∀ k, (g.term j t).bt k = if k = j then t else g.bt k := fun k => rfl
 have hhas : ∀ {l : List PItem} {T : Int} {i : Nat}, g.ldr T ≠ none → i ≤ (g.gl T).length → g.Has n l T i → (g.term j t).Has n l T i := fun h1 h2 h3 => hx.has h1 h2 h3
 refine ⟨h.gline, fun k hk i h1 h2 => ?_, h.cline, fun k T hk h1 => ?_, fun k hk => ?_, fun k T i hk hT hl h1 h2 h3 => ?_, fun k T c hk hv => ?_, fun k c T T0 i hk hv hT hl h1 h2 h3 => ?_, fun T T0 i hl hl0 hT h1 h2 h3 => ?_, h.ldrMaj, fun T c hl => ?_, h.fb, h.gb⟩
 ·exact hx.lm (hx.bt k hk) (h.fline k hk i h1 h2)
 ·obtain ⟨h2, h3, h4⟩ := h.ackle k T hk h1;exact ⟨h2, Int.le_trans h3 (hx.bt k hk), h4⟩
 ·show (g.fl k).take (g.ack k (if k = j then t else g.bt k)) = (g.gl (if k = j then t else g.bt k)).take (g.ack k (if k = j then t else g.bt k)) ∧ g.ack k (if k = j then t else g.bt k) ≤ (g.fl k).length;by_cases e : k = j
  ·subst e;rw [if_pos rfl, h.ack0 hk ht];exact ⟨rfl, Nat.zero_le _⟩
  ·rw [if_neg e]; exact h.ackNow k hk
 ·have h4 := h.ackle k T hk (by have h9 : i ≤ g.ack k T := h2; omega);exact hhas hl (by have h9 : i ≤ g.ack k T := h2; omega) (h.ackAll hk hl h1 h2 h3)
 ·obtain ⟨h1, h2, h3, h4⟩ := h.votes k T c hk hv;exact ⟨Int.le_trans h1 (hx.bt k hk), h2, h3, Int.le_trans h4 (hx.bt c h3)⟩
 ·have h4 := h.ackle k T0 hk (by have h9 : i ≤ g.ack k T0 := h2; omega);exact hhas hl (by have h9 : i ≤ g.ack k T0 := h2; omega) (h.voter k c T T0 i hk hv hT hl h1 h2 h3)
 ·exact hhas hl0 h2 (h.elect T T0 i hl hl0 hT h1 h2 h3)
 ·obtain ⟨h1, h2, h3⟩ := h.ldrBt T c hl;exact ⟨Int.le_trans h1 (hx.bt c h3), h2, h3⟩
def Gh.cast (g : Gh) (j c : Nat) : Gh := { g with vote := setNT g.vote j (g.bt j) (some c) }
theorem Gh.cast_ext (hv : g.vote j (g.bt j) = none) (c : Nat) : g.Ext (g.cast j c) n :=
 ⟨fun _ _ h => h, fun _ _ => List.prefix_refl _, fun _ _ _ => Nat.le_refl _, fun _ _ _ _ => rfl, fun _ _ => Int.le_refl _, fun k T d hk h9 => by
  show setNT g.vote j (g.bt j) (some c) k T = some d;rw [setNT_other]
  ·exact h9
  ·rintro ⟨rfl, rfl⟩; rw [hv] at h9; exact absurd h9 (by simp), fun _ _ _ _ => rfl, Nat.le_refl _⟩
theorem Gh.cast_step (hv : g.vote j (g.bt j) = none) (c : Nat) : g.Step (g.cast j c) n j :=
 ⟨Gh.cast_ext hv c, fun _ _ => rfl, fun _ _ => rfl, fun k T hk => setNT_other _ _ (fun e => hk e.1), fun _ _ _ => rfl, fun _ _ _ => rfl, fun _ _ => ⟨rfl, rfl⟩, rfl⟩
theorem Gh.cast_ok (h : g.Ok n) {c : Nat} (hv : g.vote j (g.bt j) = none) (hc : c < n) (hT : 1 ≤ g.bt j) (hcb : g.bt j ≤ g.bt c)
  (hh : ∀ (T0 : Int) (i : Nat), T0 < g.bt j → g.ldr T0 ≠ none → 1 ≤ i → i ≤ g.ack j T0 → tmL (g.gl T0) i = T0 → g.Has n (g.cl c (g.bt j)) T0 i) : (g.cast j c).Ok n := by
 have hx : g.Ext (g.cast j c) n := Gh.cast_ext hv c;refine ⟨h.gline, h.fline, h.cline, h.ackle, h.ackNow, h.ackOld, fun k T d hk h9 => ?_, fun k d T T0 i hk h9 hT0 hl h1 h2 h3 => ?_, h.elect, fun T d hl => ?_, h.ldrBt, h.fb, h.gb⟩
 ·have h9 : setNT g.vote j (g.bt j) (some c) k T = some d := h9;by_cases e : k = j ∧ T = g.bt j
  ·obtain ⟨rfl, rfl⟩ := e;rw [setNT_same] at h9;injection h9 with h9; subst h9
   exact ⟨Int.le_refl _, hT, hc, hcb⟩
  ·rw [setNT_other _ _ e] at h9;exact h.votes k T d hk h9
 ·have h9 : setNT g.vote j (g.bt j) (some c) k T = some d := h9;by_cases e : k = j ∧ T = g.bt j
  ·obtain ⟨rfl, rfl⟩ := e;rw [setNT_same] at h9;injection h9 with h9; subst h9
   exact hh T0 i hT0 hl h1 h2 h3
  ·rw [setNT_other _ _ e] at h9;exact h.voter k d T T0 i hk h9 hT0 hl h1 h2 h3
 ·exact maj_mono (h.ldrMaj T d hl) fun k hk hp => by
   simp only [decide_eq_true_eq] at hp ⊢;exact hx.vote k T d hk hp
def Gh.stand (g : Gh) (j : Nat) (t : Int) : Gh := { g with bt := setN g.bt j t, cl := setNT g.cl j t (g.fl j) }
theorem Gh.stand_ext (h : g.Ok n) {t : Int} (ht : g.bt j < t) : g.Ext (g.stand j t) n := by
 have h1 := Gh.term_ext h ht;exact ⟨h1.ldr, h1.gl, h1.ack, h1.old, h1.bt, h1.vote, fun k T hk hT => setNT_other _ _ (fun e => by
  obtain ⟨rfl, rfl⟩ := e; omega), Nat.le_refl _⟩
theorem Gh.stand_step (h : g.Ok n) {t : Int} (ht : g.bt j < t) : g.Step (g.stand j t) n j :=
 ⟨Gh.stand_ext h ht, fun _ _ => rfl, fun k hk => setN_other _ _ hk, fun _ _ _ => rfl, fun k T hk => setNT_other _ _ (fun e => hk e.1), fun _ _ _ => rfl, fun _ _ => ⟨rfl, rfl⟩, rfl⟩
theorem Gh.stand_ok (h : g.Ok n) (hj : j < n) {t : Int} (ht : g.bt j < t) : (g.stand j t).Ok n := by
 have h1 := Gh.term_ok h ht;refine ⟨h1.gline, h1.fline, fun c T hc i h2 h3 => ?_, h1.ackle, h1.ackNow, h1.ackOld, h1.votes, fun k c T T0 i hk hv hT hl h2 h3 h4 => ?_, h1.elect, h1.ldrMaj, h1.ldrBt, h1.fb, h1.gb⟩
 ·show g.Lm (T - 1) (setNT g.cl j t (g.fl j) c T) i;have h3 : i ≤ (setNT g.cl j t (g.fl j) c T).length := h3;by_cases e : c = j ∧ T = t
  ·obtain ⟨rfl, rfl⟩ := e;rw [setNT_same] at h3 ⊢;obtain ⟨a1, a2, a3⟩ := h.fline c hc i h2 h3;exact ⟨a1, by omega, a3⟩
  ·rw [setNT_other _ _ e] at h3 ⊢;exact h.cline c T hc i h2 h3
 ·have hv9 : g.vote k T = some c := hv;obtain ⟨a1, a2, a3, a4⟩ := h.votes k T c hk hv9;have e : ¬ (c = j ∧ T = t) := fun e => by
   obtain ⟨rfl, rfl⟩ := e;omega
  have h5 := h1.voter k c T T0 i hk hv hT hl h2 h3 h4;show Gh.Has (g.stand j t) n (setNT g.cl j t (g.fl j) c T) T0 i;rw [setNT_other _ _ e];exact h5
def Gh.lead (g : Gh) (j : Nat) : Gh := { g with ldr := setT g.ldr (g.bt j) (some j), gl := setT g.gl (g.bt j) (g.fl j), ack := setNT g.ack j (g.bt j) (g.fl j).length }
theorem Gh.lead_ext (h : g.Ok n) (hj : j < n) (hl : g.ldr (g.bt j) = none) : g.Ext (g.lead j) n := by
 refine ⟨fun T c h1 => ?_, fun T h1 => ?_, fun k T hk => ?_, fun k T hk hT => ?_, fun _ _ => Int.le_refl _, fun _ _ _ _ h => h, fun _ _ _ _ => rfl, Nat.le_refl _⟩
 ·show setT g.ldr (g.bt j) (some j) T = some c;rw [setT_other _ _ (fun e => by rw [e, hl] at h1; cases h1)]; exact h1
 ·show g.gl T <+: setT g.gl (g.bt j) (g.fl j) T;rw [setT_other _ _ (fun e => h1 (by rw [e]; exact hl))]; exact List.prefix_refl _
 ·show g.ack k T ≤ setNT g.ack j (g.bt j) (g.fl j).length k T;by_cases e : k = j ∧ T = g.bt j
  ·obtain ⟨rfl, rfl⟩ := e;rw [setNT_same, h.ackn hk hl]; exact Nat.zero_le _
  ·rw [setNT_other _ _ e]; exact Nat.le_refl _
 ·show setNT g.ack j (g.bt j) (g.fl j).length k T = g.ack k T;exact setNT_other _ _ (fun e => by obtain ⟨rfl, rfl⟩ := e; omega)
theorem Gh.lead_step (h : g.Ok n) (hj : j < n) (hl : g.ldr (g.bt j) = none) : g.Step (g.lead j) n j :=
 ⟨Gh.lead_ext h hj hl, fun _ _ => rfl, fun _ _ => rfl, fun _ _ _ => rfl, fun _ _ _ => rfl, fun k T hk => setNT_other _ _ (fun e => hk e.1), fun T hT => by
  by_cases e : T = g.bt j
  ·subst e;exact absurd (setT_same g.ldr (g.bt j) (some j)) hT
  ·exact ⟨setT_other _ _ e, setT_other _ _ e⟩, rfl⟩
theorem Gh.lead_ok (h : g.Ok n) (hj : j < n) (hT : 1 ≤ g.bt j) (hl : g.ldr (g.bt j) = none) (hm : Maj n (fun k => decide (g.vote k (g.bt j) = some j))) (hc : g.cl j (g.bt j) = g.fl j) : (g.lead j).Ok n := by
 have hx := Gh.lead_ext h hj hl;obtain ⟨T, hTq⟩ : ∃ T, T = g.bt j := ⟨_, rfl⟩
 have hldr : ∀ U, (g.lead j).ldr U = if U = T then some j else g.ldr U := fun U => by rw [hTq]; rfl
 have hgl : ∀ U, (g.lead j).gl U = if U = T then g.fl j else g.gl U := fun U => by rw [hTq]; rfl
 have hack : ∀ k U, (g.lead j).ack k U = if k = j ∧ U = T then (g.fl j).length else g.ack k U := fun k U => by rw [hTq]; rfl
 rw [← hTq] at hT hl hm hc;have hnew : ∀ i, 1 ≤ i → i ≤ (g.fl j).length → g.Lm (T - 1) (g.fl j) i := fun i h1 h2 => by
  have h9 := h.cline j T hj i h1 (by rw [hc]; exact h2);rw [hc] at h9; exact h9
 have hne : ∀ {U : Int}, g.ldr U ≠ none → U ≠ T := fun hU e => hU (by rw [e]; exact hl)
 have hlm : ∀ {U : Int} {l : List PItem} {i : Nat}, g.Lm U l i → (g.lead j).Lm U l i := fun h9 => hx.lm (Int.le_refl _) h9
 have hback : ∀ {U : Int} {l : List PItem} {i : Nat}, g.ldr U ≠ none → i ≤ (g.gl U).length → g.Has n l U i → (g.lead j).Has n l U i := fun h1 h2 h3 => hx.has h1 h2 h3
 refine ⟨fun U hU i h1 h2 => ?_, fun k hk i h1 h2 => hlm (h.fline k hk i h1 h2), fun c U hc9 i h1 h2 => hlm (h.cline c U hc9 i h1 h2), fun k U hk h1 => ?_, fun k hk => ?_, fun k U i hk hU hlU h1 h2 h3 => ?_, h.votes, fun k c U U0 i hk hv hU hlU h1 h2 h3 => ?_, fun U U0 i hlU hlU0 hU h1 h2 h3 => ?_, fun U c hlU => ?_, fun U c hlU => ?_, h.fb, fun U hU => ?_⟩
 ·rw [hldr] at hU;by_cases e : U = T
  ·subst e;have e9 : (g.lead j).gl U = g.fl j := by rw [hgl, if_pos rfl]
   rw [e9] at h2 ⊢;obtain ⟨a1, a2, a3⟩ := hlm (hnew i h1 h2);exact ⟨a1, by omega, a3⟩
  ·rw [if_neg e] at hU;have e9 : (g.lead j).gl U = g.gl U := by rw [hgl, if_neg e]
   rw [e9] at h2 ⊢;exact hlm (h.gline U hU i h1 h2)
 ·rw [hack] at h1;rw [hldr, hgl, hack];by_cases e : k = j ∧ U = T
  ·obtain ⟨rfl, rfl⟩ := e;rw [if_pos rfl, if_pos rfl, if_pos ⟨rfl, rfl⟩];exact ⟨fun e => (by cases e), (by rw [hTq]; exact Int.le_refl _), Nat.le_refl _⟩
  ·rw [if_neg e] at h1 ⊢;obtain ⟨a1, a2, a3⟩ := h.ackle k U hk h1;rw [if_neg (hne a1), if_neg (hne a1)];exact ⟨a1, a2, a3⟩
 ·show (g.fl k).take ((g.lead j).ack k (g.bt k)) = ((g.lead j).gl (g.bt k)).take ((g.lead j).ack k (g.bt k)) ∧ (g.lead j).ack k (g.bt k) ≤ (g.fl k).length;rw [hack, hgl];by_cases e : k = j
  ·subst e;rw [if_pos ⟨rfl, hTq.symm⟩, if_pos hTq.symm];exact ⟨rfl, Nat.le_refl _⟩
  ·rw [if_neg (fun e9 => e e9.1)];by_cases e2 : g.bt k = T
   ·rw [if_pos e2, e2, h.ackn hk hl];exact ⟨rfl, Nat.zero_le _⟩
   ·rw [if_neg e2]; exact h.ackNow k hk
 ·have hU : U < g.bt k := hU;have hUT : U ≠ T ∨ (U = T ∧ k ≠ j) := by
   by_cases e : U = T
   ·exact .inr ⟨e, fun e9 => by rw [e9, ← hTq] at hU; omega⟩
   ·exact .inl e
  rw [hldr] at hlU;rw [hack] at h2;rw [hgl] at h3;rcases hUT with e | ⟨e, e2⟩
  ·rw [if_neg e] at hlU h3;rw [if_neg (fun e9 => e e9.2)] at h2;exact hback hlU (Nat.le_trans h2 (h.ackle k U hk (by omega)).2.2) (h.ackOld k U i hk hU hlU h1 h2 h3)
  ·rw [if_neg (fun e9 => e2 e9.1), e, h.ackn hk hl] at h2;omega
 ·have hv : g.vote k U = some c := hv;rw [hldr] at hlU;rw [hack] at h2;rw [hgl] at h3;show (g.lead j).Has n (g.cl c U) U0 i;by_cases e : U0 = T
  ·by_cases e2 : k = j
   ·have h9 := (h.votes k U c hk hv).1;rw [e2, ← hTq] at h9;omega
   ·rw [if_neg (fun e9 => e2 e9.1), e, h.ackn hk hl] at h2;omega
  ·rw [if_neg e] at hlU h3;rw [if_neg (fun e9 => e e9.2)] at h2;exact hback hlU (Nat.le_trans h2 (h.ackle k U0 hk (by omega)).2.2) (h.voter k c U U0 i hk hv hU hlU h1 h2 h3)
 ·rw [hldr] at hlU hlU0;rw [hgl] at h2 h3;by_cases e0 : U0 = T
  ·rw [if_pos e0] at h2 h3;have h9 := (hnew i h1 h2).2.1;omega
  ·rw [if_neg e0] at hlU0 h2 h3;by_cases e : U = T
   ·
    subst e;have e9 : (g.lead j).gl U = g.fl j := by rw [hgl, if_pos rfl]
    rw [e9];by_cases hsome : ∃ k, k < n ∧ g.vote k U = some j ∧ i ≤ g.ack k U0
    ·obtain ⟨k, hk, hv, ha⟩ := hsome;have h9 := h.voter k j U U0 i hk hv hU hlU0 h1 ha h3;rw [hc] at h9;exact hback hlU0 h2 h9
    ·refine hback hlU0 h2 (.inr (maj_mono hm fun k hk hp => ?_));simp only [decide_eq_true_eq] at hp ⊢;refine ⟨?_, ?_⟩
     ·have h8 := (h.votes k U j hk hp).1;omega
     ·by_cases h8 : i ≤ g.ack k U0
      ·exact absurd ⟨k, hk, hp, h8⟩ hsome
      ·omega
   ·rw [if_neg e] at hlU;have e9 : (g.lead j).gl U = g.gl U := by rw [hgl, if_neg e]
    rw [e9];exact hback hlU0 h2 (h.elect U U0 i hlU hlU0 hU h1 h2 h3)
 ·rw [hldr] at hlU;by_cases e : U = T
  ·rw [if_pos e] at hlU;injection hlU with hlU
   subst hlU;rw [e]; exact hm
  ·rw [if_neg e] at hlU;exact h.ldrMaj U c hlU
 ·rw [hldr] at hlU;by_cases e : U = T
  ·rw [if_pos e] at hlU;injection hlU with hlU
   subst hlU;rw [e];exact ⟨by show T ≤ g.bt j; omega, hT, hj⟩
  ·rw [if_neg e] at hlU;exact h.ldrBt U c hlU
 ·rw [hldr] at hU;rw [hgl];by_cases e : U = T
  ·rw [if_pos e]; exact h.fb j hj
  ·rw [if_neg e] at hU ⊢;exact h.gb U hU
end
end Go.Proofs.YtogcnfhmcpkdcaaGreat
namespace Go.Proofs.YtogcnfhmcpkdcaaGreat
open Go.RowKit
set_option linter.unusedVariables false
set_option linter.unusedSimpArgs false
section
variable {n j : Nat} {g g' : Gh}
theorem tmL_snoc {l r : List PItem} {i : Nat} (hi : i ≤ l.length) : tmL (l ++ r) i = tmL l i := tmL_pre (List.prefix_append l r) hi
theorem take_snoc {l r : List PItem} {i : Nat} (hi : i ≤ l.length) : (l ++ r).take i = l.take i := List.take_append_of_le_length hi
theorem tmL_end (l : List PItem) (it : PItem) : tmL (l ++ [it]) (l.length + 1) = it.1 := by
 unfold tmL;rw [if_neg (by omega), show l.length + 1 - 1 = l.length by omega, List.getD_eq_getElem?_getD, List.getElem?_append_right (Nat.le_refl _)]
 simp
theorem Gh.Lm.snoc {T : Int} {l r : List PItem} {i : Nat} (h : g.Lm T l i) (hi : i ≤ l.length) : g.Lm T (l ++ r) i := by
 unfold Gh.Lm at h ⊢;rw [tmL_snoc hi, take_snoc hi];exact h
theorem tmL_take' {l : List PItem} {i m : Nat} (hi : i ≤ m) : tmL (l.take m) i = tmL l i := tmL_take (i := i) (by rw [List.take_take, Nat.min_eq_left hi]) (Nat.le_refl _)
theorem Gh.Lm.take {T : Int} {l : List PItem} {i m : Nat} (h : g.Lm T l i) (hi : i ≤ m) : g.Lm T (l.take m) i := by
 unfold Gh.Lm at h ⊢;rw [tmL_take' hi, List.take_take, Nat.min_eq_left hi];exact h
theorem Gh.Has.snoc {T : Int} {l r : List PItem} {i : Nat} (h : g.Has n l T i) : g.Has n (l ++ r) T i := by
 rcases h with ⟨h1, h2⟩ | h1
 ·exact .inl ⟨by rw [List.length_append]; omega, by rw [take_snoc h1]; exact h2⟩
 ·exact .inr h1
def Gh.append (g : Gh) (j : Nat) (it : PItem) : Gh := { g with fl := setN g.fl j (g.fl j ++ [it]), gl := setT g.gl (g.bt j) (g.fl j ++ [it]), ack := setNT g.ack j (g.bt j) ((g.fl j).length + 1), cnt := g.cnt + 1 }
theorem Gh.append_ext (h : g.Ok n) (hj : j < n) {it : PItem} (hg : g.gl (g.bt j) = g.fl j) : g.Ext (g.append j it) n := by
 refine ⟨fun _ _ h => h, fun T h1 => ?_, fun k T hk => ?_, fun k T hk hT => ?_, fun _ _ => Int.le_refl _, fun _ _ _ _ h => h, fun _ _ _ _ => rfl, Nat.le_refl _⟩
 ·show g.gl T <+: setT g.gl (g.bt j) (g.fl j ++ [it]) T;by_cases e : T = g.bt j
  ·subst e;rw [setT_same, hg]; exact List.prefix_append _ _
  ·rw [setT_other _ _ e]; exact List.prefix_refl _
 ·show g.ack k T ≤ setNT g.ack j (g.bt j) ((g.fl j).length + 1) k T;by_cases e : k = j ∧ T = g.bt j
  ·obtain ⟨rfl, rfl⟩ := e;rw [setNT_same];have h1 := (h.ackNow k hk).2;omega
  ·rw [setNT_other _ _ e]; exact Nat.le_refl _
 ·exact setNT_other _ _ (fun e => by obtain ⟨rfl, rfl⟩ := e; omega)
theorem Gh.append_step (h : g.Ok n) (hj : j < n) {it : PItem} (hl : g.ldr (g.bt j) = some j) (hg : g.gl (g.bt j) = g.fl j) : g.Step (g.append j it) n j :=
 ⟨Gh.append_ext h hj hg, fun k hk => setN_other _ _ hk, fun _ _ => rfl, fun _ _ _ => rfl, fun _ _ _ => rfl, fun k T hk => setNT_other _ _ (fun e => hk e.1), fun T hT => by
  by_cases e : T = g.bt j
  ·subst e; exact absurd hl hT
  ·exact ⟨setT_other _ _ e, rfl⟩, rfl⟩
theorem Gh.append_ok (h : g.Ok n) (hj : j < n) {it : PItem} (hl : g.ldr (g.bt j) = some j) (hg : g.gl (g.bt j) = g.fl j) (hit : it.1 = g.bt j) (hib : it.2.length ≤ 50) : (g.append j it).Ok n := by
 have hx : g.Ext (g.append j it) n := Gh.append_ext h hj hg;obtain ⟨T, hTq⟩ : ∃ T, T = g.bt j := ⟨_, rfl⟩
 have hgl : ∀ U, (g.append j it).gl U = if U = T then g.fl j ++ [it] else g.gl U := fun U => by rw [hTq]; rfl
 have hfl : ∀ k, (g.append j it).fl k = if k = j then g.fl j ++ [it] else g.fl k := fun k => rfl
 have hack : ∀ k U, (g.append j it).ack k U = if k = j ∧ U = T then (g.fl j).length + 1 else g.ack k U := fun k U => by rw [hTq]; rfl
 rw [← hTq] at hl hg hit;have hln : g.ldr T ≠ none := by rw [hl]; exact fun e => by cases e
 have hT1 := (h.ldrBt T j hl).2.1;have hlm : ∀ {U : Int} {l : List PItem} {i : Nat}, g.Lm U l i → (g.append j it).Lm U l i := fun h9 => hx.lm (Int.le_refl _) h9
 have hback : ∀ {U : Int} {l : List PItem} {i : Nat}, g.ldr U ≠ none → i ≤ (g.gl U).length → g.Has n l U i → (g.append j it).Has n l U i := fun h1 h2 h3 => hx.has h1 h2 h3
 have hline : ∀ i, 1 ≤ i → i ≤ (g.fl j ++ [it]).length → (g.append j it).Lm T (g.fl j ++ [it]) i := fun i h1 h2 => by
  rw [List.length_append, List.length_singleton] at h2;by_cases h3 : i ≤ (g.fl j).length
  ·have h9 := h.gline T hln i h1 (by rw [hg]; exact h3);rw [hg] at h9;exact (hlm h9).snoc h3
  ·have e : i = (g.fl j).length + 1 := by omega
   have e9 : tmL (g.fl j ++ [it]) i = T := by rw [e, tmL_end, hit]
   refine ⟨by rw [e9]; exact hT1, by rw [e9]; exact Int.le_refl _, by rw [e9]; exact hln, ?_, ?_⟩
   ·rw [e9, hgl, if_pos rfl, List.length_append, List.length_singleton]; omega
   ·rw [e9, hgl, if_pos rfl]
 have htm : ∀ U i, g.ldr U ≠ none → i ≤ (g.gl U).length → tmL ((g.append j it).gl U) i = tmL (g.gl U) i := fun U i h1 h2 => tmL_pre (hx.gl U h1) h2
 have hackT : ∀ k, k < n → g.ack k T ≤ (g.fl j).length := fun k hk => by
  rcases Nat.eq_zero_or_pos (g.ack k T) with h9 | h9
  ·omega
  ·have := (h.ackle k T hk h9).2.2; rw [hg] at this; exact this
 refine ⟨fun U hU i h1 h2 => ?_, fun k hk i h1 h2 => ?_, fun c U hc9 i h1 h2 => hlm (h.cline c U hc9 i h1 h2), fun k U hk h1 => ?_, fun k hk => ?_, fun k U i hk hU hlU h1 h2 h3 => ?_, h.votes, fun k c U U0 i hk hv hU hlU h1 h2 h3 => ?_, fun U U0 i hlU hlU0 hU h1 h2 h3 => ?_, h.ldrMaj, h.ldrBt, fun k hk => ?_, fun U hU => ?_⟩
 ·by_cases e : U = T
  ·subst e;have e9 : (g.append j it).gl U = g.fl j ++ [it] := by rw [hgl, if_pos rfl]
   rw [e9] at h2 ⊢;exact hline i h1 h2
  ·have e9 : (g.append j it).gl U = g.gl U := by rw [hgl, if_neg e]
   rw [e9] at h2 ⊢;exact hlm (h.gline U hU i h1 h2)
 ·show (g.append j it).Lm (g.bt k) ((g.append j it).fl k) i;by_cases e : k = j
  ·subst e;have e9 : (g.append k it).fl k = g.fl k ++ [it] := by rw [hfl, if_pos rfl]
   rw [e9] at h2 ⊢;rw [← hTq];exact hline i h1 h2
  ·have e9 : (g.append j it).fl k = g.fl k := by rw [hfl, if_neg e]
   rw [e9] at h2 ⊢;exact hlm (h.fline k hk i h1 h2)
 ·show g.ldr U ≠ none ∧ U ≤ g.bt k ∧ (g.append j it).ack k U ≤ ((g.append j it).gl U).length;rw [hack] at h1 ⊢;by_cases e : k = j ∧ U = T
  ·obtain ⟨rfl, rfl⟩ := e;rw [if_pos ⟨rfl, rfl⟩, hgl, if_pos rfl, List.length_append, List.length_singleton];exact ⟨hln, by rw [hTq]; exact Int.le_refl _, Nat.le_refl _⟩
  ·rw [if_neg e] at h1 ⊢;obtain ⟨a1, a2, a3⟩ := h.ackle k U hk h1;exact ⟨a1, a2, Nat.le_trans a3 (hx.gl U a1).length_le⟩
 ·show ((g.append j it).fl k).take ((g.append j it).ack k (g.bt k)) = ((g.append j it).gl (g.bt k)).take ((g.append j it).ack k (g.bt k)) ∧ (g.append j it).ack k (g.bt k) ≤ ((g.append j it).fl k).length;rw [hfl, hgl, hack];by_cases e : k = j
  ·subst e;rw [if_pos rfl, if_pos hTq.symm, if_pos ⟨rfl, hTq.symm⟩];exact ⟨rfl, by rw [List.length_append, List.length_singleton]; exact Nat.le_refl _⟩
  ·rw [if_neg e, if_neg (fun e9 => e e9.1)];obtain ⟨a1, a2⟩ := h.ackNow k hk;by_cases e2 : g.bt k = T
   ·rw [if_pos e2, take_snoc (by rw [e2]; exact hackT k hk)];rw [e2, hg] at a1;rw [e2];exact ⟨a1, by rw [← e2]; exact a2⟩
   ·rw [if_neg e2]; exact ⟨a1, a2⟩
 ·have hU : U < g.bt k := hU;have hlU : g.ldr U ≠ none := hlU;rw [hack] at h2;have hkU : ¬ (k = j ∧ U = T) := fun e => by
   obtain ⟨rfl, rfl⟩ := e;omega
  rw [if_neg hkU] at h2;have h4 := (h.ackle k U hk (by omega)).2.2;rw [htm U i hlU (by omega)] at h3;have h5 := hback hlU (Nat.le_trans h2 h4) (h.ackOld k U i hk hU hlU h1 h2 h3);rw [hfl];by_cases e : k = j
  ·subst e; rw [if_pos rfl]; exact h5.snoc
  ·rw [if_neg e]; exact h5
 ·have hv : g.vote k U = some c := hv;have hlU : g.ldr U0 ≠ none := hlU;rw [hack] at h2;have hkU : ¬ (k = j ∧ U0 = T) := fun e => by
   obtain ⟨rfl, rfl⟩ := e;have h9 := (h.votes k U c hk hv).1;omega
  rw [if_neg hkU] at h2;have h4 := (h.ackle k U0 hk (by omega)).2.2;rw [htm U0 i hlU (by omega)] at h3;exact hback hlU (Nat.le_trans h2 h4) (h.voter k c U U0 i hk hv hU hlU h1 h2 h3)
 ·have hlU : g.ldr U ≠ none := hlU;have hlU0 : g.ldr U0 ≠ none := hlU0;by_cases hi : i ≤ (g.gl U0).length
  ·rw [htm U0 i hlU0 hi] at h3;have h5 := hback hlU0 hi (h.elect U U0 i hlU hlU0 hU h1 hi h3);rw [hgl];by_cases e : U = T
   ·subst e; rw [if_pos rfl, ← hg]; exact h5.snoc
   ·rw [if_neg e]; exact h5
  ·have e0 : U0 = T := by
    by_cases e : U0 = T
    ·exact e
    ·rw [hgl, if_neg e] at h2; exact absurd h2 hi
   subst e0;rw [hgl, if_pos rfl, List.length_append, List.length_singleton] at h2;rw [hg] at hi;obtain ⟨c, hc⟩ : ∃ c, g.ldr U = some c := by
    cases h9 : g.ldr U with
    | none => exact absurd h9 hlU
    | some c => exact ⟨c, rfl⟩
   refine .inr (maj_mono (h.ldrMaj U c hc) fun k hk hp => ?_);simp only [decide_eq_true_eq] at hp ⊢;have h8 := (h.votes k U c hk hp).1;have hkj : k ≠ j := fun e => by rw [e, ← hTq] at h8; omega
   rw [hack, if_neg (fun e => hkj e.1)];have h9 := hackT k hk;exact ⟨by show U0 < g.bt k; omega, by omega⟩
 ·have hlong : (g.fl j ++ [it]).length ≤ g.cnt + 1 ∧ ∀ y ∈ g.fl j ++ [it], y.2.length ≤ 50 := by
   obtain ⟨f1, f2⟩ := h.fb j hj;refine ⟨by rw [List.length_append, List.length_singleton]; omega, fun y hy => ?_⟩;rcases List.mem_append.1 hy with hy | hy
   ·exact f2 y hy
   ·rw [List.mem_singleton] at hy; subst hy; exact hib
  rw [hfl];by_cases e : k = j
  ·rw [if_pos e]; exact hlong
  ·rw [if_neg e]; exact ⟨Nat.le_succ_of_le (h.fb k hk).1, (h.fb k hk).2⟩
 ·have hlong : (g.fl j ++ [it]).length ≤ g.cnt + 1 ∧ ∀ y ∈ g.fl j ++ [it], y.2.length ≤ 50 := by
   obtain ⟨f1, f2⟩ := h.fb j hj;refine ⟨by rw [List.length_append, List.length_singleton]; omega, fun y hy => ?_⟩;rcases List.mem_append.1 hy with hy | hy
   ·exact f2 y hy
   ·rw [List.mem_singleton] at hy; subst hy; exact hib
  rw [hgl];by_cases e : U = T
  ·rw [if_pos e]; exact hlong
  ·rw [if_neg e]; exact ⟨Nat.le_succ_of_le (h.gb U hU).1, (h.gb U hU).2⟩
def Gh.follow (g : Gh) (j : Nat) (F : List PItem) (m : Nat) : Gh := { g with fl := setN g.fl j F, ack := setNT g.ack j (g.bt j) (max (g.ack j (g.bt j)) m) }
theorem Gh.follow_ext (F : List PItem) (m : Nat) : g.Ext (g.follow j F m) n := by
 refine ⟨fun _ _ h => h, fun T h1 => List.prefix_refl _, fun k T hk => ?_, fun k T hk hT => ?_, fun _ _ => Int.le_refl _, fun _ _ _ _ h => h, fun _ _ _ _ => rfl, Nat.le_refl _⟩
 ·show g.ack k T ≤ setNT g.ack j (g.bt j) (max (g.ack j (g.bt j)) m) k T;by_cases e : k = j ∧ T = g.bt j
  ·obtain ⟨rfl, rfl⟩ := e;rw [setNT_same]; omega
  ·rw [setNT_other _ _ e]; exact Nat.le_refl _
 ·exact setNT_other _ _ (fun e => by obtain ⟨rfl, rfl⟩ := e; omega)
theorem Gh.follow_step (F : List PItem) (m : Nat) : g.Step (g.follow j F m) n j :=
 ⟨Gh.follow_ext F m, fun k hk => setN_other _ _ hk, fun _ _ => rfl, fun _ _ _ => rfl, fun _ _ _ => rfl, fun k T hk => setNT_other _ _ (fun e => hk e.1), fun _ _ => ⟨rfl, rfl⟩, rfl⟩
theorem Gh.follow_ok (h : g.Ok n) (hj : j < n) {F : List PItem} {m : Nat} (hl : g.ldr (g.bt j) ≠ none) (hm : m ≤ (g.gl (g.bt j)).length)
  (hF : (F = g.fl j ∧ (g.fl j).take m = (g.gl (g.bt j)).take m ∧ m ≤ (g.fl j).length) ∨ (F = (g.gl (g.bt j)).take m ∧ ∃ d, 1 ≤ d ∧ d ≤ m ∧ ¬ (d ≤ (g.fl j).length ∧ (g.fl j).take d = (g.gl (g.bt j)).take d))) : (g.follow j F m).Ok n := by
 have hx : g.Ext (g.follow j F m) n := Gh.follow_ext F m;obtain ⟨T, hTq⟩ : ∃ T, T = g.bt j := ⟨_, rfl⟩
 have hfl : ∀ k, (g.follow j F m).fl k = if k = j then F else g.fl k := fun k => rfl
 have hack : ∀ k U, (g.follow j F m).ack k U = if k = j ∧ U = T then max (g.ack j T) m else g.ack k U := fun k U => by rw [hTq]; rfl
 rw [← hTq] at hl hm hF;have hlm : ∀ {U : Int} {l : List PItem} {i : Nat}, g.Lm U l i → (g.follow j F m).Lm U l i := fun h9 => h9
 have hback : ∀ {U : Int} {l : List PItem} {i : Nat}, g.ldr U ≠ none → i ≤ (g.gl U).length → g.Has n l U i → (g.follow j F m).Has n l U i := fun h1 h2 h3 => hx.has h1 h2 h3
 obtain ⟨b1, b2⟩ := h.ackNow j hj;rw [← hTq] at b1 b2;have hneed : ∀ {k : Nat} {U : Int}, ¬ (k = j ∧ U = T) → (g.follow j F m).ack k U = g.ack k U := fun e => by rw [hack, if_neg e]
 refine ⟨h.gline, fun k hk i h1 h2 => ?_, h.cline, fun k U hk h1 => ?_, fun k hk => ?_, fun k U i hk hU hlU h1 h2 h3 => ?_, h.votes, fun k c U U0 i hk hv hU hlU h1 h2 h3 => ?_, fun U U0 i hlU hlU0 hU h1 h2 h3 => hback hlU0 h2 (h.elect U U0 i hlU hlU0 hU h1 h2 h3), h.ldrMaj, h.ldrBt, fun k hk => ?_, h.gb⟩
 ·show g.Lm (g.bt k) ((g.follow j F m).fl k) i;rw [hfl] at h2 ⊢;by_cases e : k = j
  ·subst e;rw [if_pos rfl] at h2 ⊢;rcases hF with ⟨rfl, -, -⟩ | ⟨rfl, -⟩
   ·exact h.fline k hk i h1 h2
   ·rw [List.length_take] at h2;rw [← hTq];exact (h.gline T hl i h1 (by omega)).take (by omega)
  ·rw [if_neg e] at h2 ⊢;exact h.fline k hk i h1 h2
 ·show g.ldr U ≠ none ∧ U ≤ g.bt k ∧ (g.follow j F m).ack k U ≤ (g.gl U).length;rw [hack] at h1 ⊢;by_cases e : k = j ∧ U = T
  ·obtain ⟨rfl, rfl⟩ := e;rw [if_pos ⟨rfl, rfl⟩];refine ⟨hl, by rw [hTq]; exact Int.le_refl _, ?_⟩;rcases Nat.eq_zero_or_pos (g.ack k U) with h9 | h9
   ·omega
   ·have := (h.ackle k U hk h9).2.2; omega
  ·rw [if_neg e] at h1 ⊢;exact h.ackle k U hk h1
 ·show ((g.follow j F m).fl k).take ((g.follow j F m).ack k (g.bt k)) = (g.gl (g.bt k)).take ((g.follow j F m).ack k (g.bt k)) ∧ (g.follow j F m).ack k (g.bt k) ≤ ((g.follow j F m).fl k).length;rw [hfl, hack];by_cases e : k = j
  ·subst e;rw [if_pos rfl, if_pos ⟨rfl, hTq.symm⟩, ← hTq];rcases hF with ⟨rfl, c2, c3⟩ | ⟨rfl, d, d1, d2, d3⟩
   ·by_cases hA : g.ack k T ≤ m
    ·rw [Nat.max_eq_right hA]; exact ⟨c2, c3⟩
    ·rw [Nat.max_eq_left (by omega)]; exact ⟨b1, b2⟩
   ·have hA : g.ack k T ≤ m := by
     by_cases h9 : d ≤ g.ack k T
     ·exact absurd ⟨by omega, take_le b1 h9⟩ d3
     ·omega
    rw [Nat.max_eq_right hA, List.take_take, Nat.min_self, List.length_take];exact ⟨rfl, by omega⟩
  ·rw [if_neg e, if_neg (fun e9 => e e9.1)];exact h.ackNow k hk
 ·have hU : U < g.bt k := hU;have hkU : ¬ (k = j ∧ U = T) := fun e => by
   obtain ⟨rfl, rfl⟩ := e;omega
  rw [hneed hkU] at h2;have h4 := (h.ackle k U hk (by omega)).2.2;have h5 := h.ackOld k U i hk hU hlU h1 h2 h3;rw [hfl];by_cases e : k = j
  ·subst e;rw [if_pos rfl];rcases hF with ⟨rfl, c2, c3⟩ | ⟨rfl, d, d1, d2, d3⟩
   ·exact hback hlU (Nat.le_trans h2 h4) h5
   ·refine hback hlU (Nat.le_trans h2 h4) ?_;rcases h5 with ⟨e1, e2⟩ | h5
    ·rcases h.elect T U i hl hlU (by omega) h1 (Nat.le_trans h2 h4) h3 with ⟨e3, e4⟩ | h6
     ·have e5 : (g.fl k).take i = (g.gl T).take i := e2.trans e4.symm;by_cases him : i ≤ m
      ·exact .inl ⟨by rw [List.length_take]; omega, by rw [List.take_take, Nat.min_eq_left him]; exact e4⟩
      ·exact absurd ⟨by omega, take_le e5 (by omega)⟩ d3
     ·exact .inr h6
    ·exact .inr h5
  ·rw [if_neg e]; exact hback hlU (Nat.le_trans h2 h4) h5
 ·have hv : g.vote k U = some c := hv;have hkU : ¬ (k = j ∧ U0 = T) := fun e => by
   obtain ⟨rfl, rfl⟩ := e;have h9 := (h.votes k U c hk hv).1;omega
  rw [hneed hkU] at h2;have h4 := (h.ackle k U0 hk (by omega)).2.2;exact hback hlU (Nat.le_trans h2 h4) (h.voter k c U U0 i hk hv hU hlU h1 h2 h3)
 ·show ((g.follow j F m).fl k).length ≤ g.cnt ∧ ∀ it ∈ (g.follow j F m).fl k, it.2.length ≤ 50;rw [hfl];by_cases e : k = j
  ·rw [if_pos e];rcases hF with ⟨rfl, -, -⟩ | ⟨rfl, -⟩
   ·exact h.fb j hj
   ·obtain ⟨f1, f2⟩ := h.gb T hl;exact ⟨by rw [List.length_take]; omega, fun y hy => f2 y (List.mem_of_mem_take hy)⟩
  ·rw [if_neg e]; exact h.fb k hk
end
end Go.Proofs.YtogcnfhmcpkdcaaGreat
namespace Go.Proofs.YtogcnfhmcpkdcaaGreat
open Go.RowKit
set_option linter.unusedVariables false
set_option linter.unusedSimpArgs false
def lineOf (F : List PItem) (b : Nat) : PLine := ⟨b, tmL F b, F.drop b⟩
section
variable {F G : List PItem} {b : Nat}
theorem lineOf_last (hb : b ≤ F.length) : (lineOf F b).last = F.length := by
 show (b : Int) + ((F.drop b).length : Int) = F.length;rw [List.length_drop]; omega
theorem lineOf_tm (hb : b ≤ F.length) (i : Nat) : (lineOf F b).tm i = if b ≤ i ∧ i ≤ F.length then tmL F i else -1 := by
 unfold PLine.tm;rw [lineOf_last hb];show (if (i : Int) = (b : Int) then tmL F b else if (i : Int) < (b : Int) ∨ (F.length : Int) < (i : Int) then -1 else ((F.drop b).getD ((i : Int) - (b : Int) - 1).toNat (0, [])).1) = _;by_cases h1 : i = b
 ·subst h1;rw [if_pos rfl, if_pos ⟨Nat.le_refl _, hb⟩]
 ·rw [if_neg (by omega)];by_cases h2 : b ≤ i ∧ i ≤ F.length
  ·rw [if_neg (by omega), if_pos h2];unfold tmL;rw [if_neg (by omega), List.getD_eq_getElem?_getD, List.getD_eq_getElem?_getD, List.getElem?_drop, show b + ((i : Int) - (b : Int) - 1).toNat = i - 1 by omega]
  ·rw [if_pos (by omega), if_neg h2]
theorem lineOf_tmIs (hg : (lineOf F b).Good) (hb : b ≤ F.length) (i : Nat) : tmIs (lineOf F b) i = if b ≤ i ∧ i ≤ F.length then (tmL F i, true) else (0, false) := by
 have h1 := hg.tm_ge i;rw [lineOf_last hb] at h1;have h2 := lineOf_tm hb i;have hbs : (lineOf F b).base = b := rfl;rw [hbs] at h1;unfold tmIs;by_cases h : b ≤ i ∧ i ≤ F.length
 ·rw [if_pos (h1.2 (by omega)), h2, if_pos h, if_pos h]
 ·rw [if_neg (fun h9 => h (by have := h1.1 h9; omega)), if_neg h]
theorem lineOf_add (hb : b ≤ F.length) (it : PItem) : ((lineOf F b).add it = (lineOf (F ++ [it]) b, (F.length : Int) + 1)) ∨ ((lineOf F b).add it = (lineOf F b, 0)) := by
 rcases add_eq (lineOf F b) it with e | ⟨e, -⟩
 ·exact .inr e
 ·refine .inl ?_;rw [e, lineOf_last hb];have e2 : ({ lineOf F b with l := (lineOf F b).l ++ [it] } : PLine) = lineOf (F ++ [it]) b := by
   unfold lineOf;rw [tmL_snoc hb, List.drop_append_of_le_length hb]
  rw [e2]
theorem lineOf_drop (hg : (lineOf F b).Good) (hb : b ≤ F.length) {i : Nat} (h1 : b ≤ i) (h2 : i ≤ F.length) : (lineOf F b).drop i = (lineOf F i, true) := by
 have h3 := lineOf_tm hb i;rw [if_pos ⟨h1, h2⟩] at h3;have h4 := (hg.tm_ge i).2 ⟨by show (b : Int) ≤ i; omega, by rw [lineOf_last hb]; omega⟩;unfold PLine.drop;rw [if_neg (by omega), h3];show ((⟨(i : Int), tmL F i, (F.drop b).drop ((i : Int) - (b : Int)).toNat⟩ : PLine), true) = _;rw [List.drop_drop, show b + ((i : Int) - (b : Int)).toNat = i by omega];rfl
theorem lineOf_from (hb : b ≤ F.length) {i : Nat} (h1 : b < i) {m : Nat} (hm : 1 ≤ m) : (lineOf F b).from_ i m = (F.drop (i - 1)).take m := by
 unfold PLine.from_;rw [lineOf_last hb];have hbs : (lineOf F b).base = b := rfl;rw [hbs];by_cases h2 : i ≤ F.length
 ·rw [if_neg (by omega)];show ((F.drop b).drop ((i : Int) - (b : Int) - 1).toNat).take ((m : Int)).toNat = _;rw [List.drop_drop, show b + ((i : Int) - (b : Int) - 1).toNat = i - 1 by omega, show ((m : Int)).toNat = m by omega]
 ·rw [if_pos (by omega), List.drop_of_length_le (by omega)]
  simp
theorem lineOf_join (hg : (lineOf F b).Good) (hb : b ≤ F.length) {a len : Nat} {its : List PItem} (hlen : its.length = len) (ha : a + len ≤ G.length) (hits : its = (G.drop a).take len)
  (hpre : F.take b = G.take b ∧ b ≤ G.length) (hsame : ∀ i, 1 ≤ i → i ≤ F.length → i ≤ G.length → tmL F i = tmL G i → F.take i = G.take i) :
  ((lineOf F b).join a (tmL G a) its = (lineOf F b, 0, false)) ∨
  ((lineOf F b).join a (tmL G a) its = (lineOf F b, 0, true) ∧ a + len ≤ F.length ∧ F.take (a + len) = G.take (a + len)) ∨
  (∃ j : Nat, (lineOf F b).join a (tmL G a) its = (lineOf (G.take (a + len)) b, (j : Int), true) ∧ b < j ∧ 1 ≤ j ∧ j ≤ a + len ∧ a < j ∧ ¬ (j ≤ F.length ∧ F.take j = G.take j) ∧ F.take (j - 1) = G.take (j - 1) ∧ j - 1 ≤ F.length) := by
 have hbs : (lineOf F b).base = b := rfl;have hl := lineOf_last hb;have hit : ∀ m, m < len → (its.getD m (0, [])).1 = tmL G (a + 1 + m) := fun m hm => by
  unfold tmL;rw [if_neg (by omega), hits, List.getD_eq_getElem?_getD, List.getD_eq_getElem?_getD, List.getElem?_take_of_lt hm, List.getElem?_drop, show a + 1 + m - 1 = a + m by omega]
 have key : ∀ i : Nat, i ≤ G.length → (i ≤ b ∨ (lineOf F b).tm i = tmL G i) → (b ≤ i → i ≤ F.length) → F.take i = G.take i := fun i hiG hor hiF => by
  by_cases hib : i ≤ b
  ·exact take_le hpre.1 hib
  ·rcases hor with h9 | h9
   ·omega
   ·have hif := hiF (by omega);rw [lineOf_tm hb, if_pos ⟨by omega, hif⟩] at h9;exact hsame i (by omega) hif hiG h9
 rcases join_spec hg (a : Int) (tmL G a) its with e | ⟨e, h1, h2, h3, h4, h5⟩ | ⟨J, k, e, h1, h2, h3, h4, h5, h6, h7, h8, h9, -, -⟩
 ·exact .inl e
 ·refine .inr (.inl ⟨e, ?_, ?_⟩)
  ·rw [hl, hlen] at h3; omega
  ·rw [hl] at h2 h3;rw [hlen] at h3;refine key (a + len) ha ?_ (fun _ => by omega);by_cases h0 : len = 0
   ·rw [h0, Nat.add_zero];by_cases hab : b ≤ a
    ·exact .inr (h4 (by rw [hbs]; omega))
    ·exact .inl (by omega)
   ·have h6 := h5 (len - 1) (by omega);rw [hit (len - 1) (by omega), show a + 1 + (len - 1) = a + len by omega, hbs] at h6;rcases h6 with h6 | h6
    ·exact .inl (by omega)
    ·refine .inr ?_;rw [← h6]
     congr 1
     omega
 ·rw [hbs] at h5;rw [hl] at h2 h6;obtain ⟨j, hj⟩ : ∃ j : Nat, J = j := ⟨J.toNat, by omega⟩
  subst hj;have hjk : j = a + 1 + k := by omega
  have hk : k < len := by omega
  have hpj : F.take (j - 1) = G.take (j - 1) := by
   refine key (j - 1) (by omega) ?_ (fun _ => by omega);by_cases h0 : k = 0
   ·subst h0;rw [hjk];exact .inr (h7 (by rw [hbs]; omega))
   ·have h10 := h9 (k - 1) (by omega);rw [hit (k - 1) (by omega), show a + 1 + (k - 1) = j - 1 by omega, hbs] at h10;rcases h10 with h10 | h10
    ·exact .inl (by omega)
    ·refine .inr ?_;rw [← h10]
     congr 1
     omega
  refine .inr (.inr ⟨j, ?_, by omega, by omega, by omega, by omega, fun hc => ?_, hpj, by omega⟩)
  ·rw [e];refine Prod.ext ?_ rfl;show ({ lineOf F b with l := (lineOf F b).l.take ((j : Int) - (b : Int) - 1).toNat ++ its.drop k } : PLine) = _;unfold lineOf;have e1 : tmL (G.take (a + len)) b = tmL F b := by
    rw [tmL_take' (by omega)];exact (tmL_take hpj (by omega)).symm
   have e2 : (G.take (a + len)).drop b = (F.drop b).take ((j : Int) - (b : Int) - 1).toNat ++ its.drop k := by
    have e3 : (F.drop b).take ((j : Int) - (b : Int) - 1).toNat = (F.take (j - 1)).drop b := by
     rw [List.drop_take, show ((j : Int) - (b : Int) - 1).toNat = j - 1 - b by omega]
    rw [e3, hpj, hits, List.drop_take, List.drop_take, List.drop_take, List.drop_drop, show a + k = j - 1 by omega];have e4 : (G.drop b).take (a + len - b) = (G.drop b).take (j - 1 - b) ++ ((G.drop b).drop (j - 1 - b)).take (a + len - b - (j - 1 - b)) := by
     rw [← List.take_add]
     congr 1
     omega
    rw [e4, List.drop_drop, show b + (j - 1 - b) = j - 1 by omega, show a + len - b - (j - 1 - b) = len - k by omega]
   rw [e1, e2]
  ·obtain ⟨hc1, hc2⟩ := hc;apply h8;rw [hit k hk, show a + 1 + k = j by omega, lineOf_tm hb, if_pos ⟨by omega, hc1⟩];exact tmL_take hc2 (Nat.le_refl _)
end
end Go.Proofs.YtogcnfhmcpkdcaaGreat
namespace Go.Proofs.YtogcnfhmcpkdcaaGreat
open Go.RowKit
set_option linter.unusedVariables false
set_option linter.unusedSimpArgs false
def stOf (a : Nat) : List UInt8 := [UInt8.ofNat (a / 256), UInt8.ofNat a]
section
variable {n j : Nat} {g g' : Gh} {R R' : PRaft}
def Gh.Com (g : Gh) (n : Nat) (T : Int) (l : List PItem) (m : Nat) : Prop := m ≤ l.length ∧ (m = 0 ∨ ∃ T1 i1, T1 ≤ T ∧ g.Chosen n T1 i1 ∧ m ≤ i1 ∧ l.take m = (g.gl T1).take m)
def Gh.Co (g : Gh) (n : Nat) (T : Int) (o : Nat) : Prop := o = 0 ∨ ∃ T1 i1, T1 ≤ T ∧ g.Chosen n T1 i1 ∧ o ≤ i1
theorem Gh.Com.co {T : Int} {l : List PItem} {m : Nat} (h : g.Com n T l m) : g.Co n T m := by
 rcases h.2 with h1 | ⟨T1, i1, h1, h2, h3, -⟩
 ·exact .inl h1
 ·exact .inr ⟨T1, i1, h1, h2, h3⟩
theorem Gh.Com.agree {T : Int} {l : List PItem} {m : Nat} (h : g.Com n T l m) (hg : g.Ok n) (hl : g.ldr T ≠ none) : m ≤ (g.gl T).length ∧ l.take m = (g.gl T).take m := by
 rcases h.2 with h1 | ⟨T1, i1, h1, h2, h3, h4⟩
 ·subst h1; exact ⟨Nat.zero_le _, rfl⟩
 ·obtain ⟨a1, a2⟩ := hg.kept h2 hl h1;exact ⟨by omega, h4.trans (take_le a2 h3).symm⟩
theorem Gh.Co.com {T : Int} {l : List PItem} {m o : Nat} (h : g.Co n T o) (hg : g.Ok n) (hl : g.ldr T ≠ none) (hm : m ≤ l.length) (ht : l.take m = (g.gl T).take m) (ho : m ≤ o) : g.Com n T l m := by
 refine ⟨hm, ?_⟩;rcases h with h1 | ⟨T1, i1, h1, h2, h3⟩
 ·exact .inl (by omega)
 ·obtain ⟨a1, a2⟩ := hg.kept h2 hl h1;exact .inr ⟨T1, i1, h1, h2, by omega, ht.trans (take_le a2 (by omega))⟩
theorem Gh.Com.le {T : Int} {l : List PItem} {m m' : Nat} (h : g.Com n T l m) (hm : m' ≤ m) : g.Com n T l m' := by
 refine ⟨Nat.le_trans hm h.1, ?_⟩;rcases h.2 with h1 | ⟨T1, i1, h1, h2, h3, h4⟩
 ·exact .inl (by omega)
 ·exact .inr ⟨T1, i1, h1, h2, by omega, take_le h4 hm⟩
theorem Gh.Ext.com (hx : g.Ext g' n) {T T' : Int} {l l' : List PItem} {m : Nat} (h : g.Com n T l m) (hT : T ≤ T') (hl : m ≤ l'.length) (ht : l'.take m = l.take m) : g'.Com n T' l' m := by
 refine ⟨hl, ?_⟩;rcases h.2 with h1 | ⟨T1, i1, h1, h2, h3, h4⟩
 ·exact .inl h1
 ·refine .inr ⟨T1, i1, by omega, hx.chosen h2, h3, ht.trans (h4.trans ?_)⟩;exact (take_pre (hx.gl T1 h2.1) (by have := h2.2.2.1; omega)).symm
theorem Gh.Ext.co (hx : g.Ext g' n) {T T' : Int} {o : Nat} (h : g.Co n T o) (hT : T ≤ T') : g'.Co n T' o := by
 rcases h with h1 | ⟨T1, i1, h1, h2, h3⟩
 ·exact .inl h1
 ·exact .inr ⟨T1, i1, by omega, hx.chosen h2, h3⟩
def RS (g : Gh) (b : Int) (st : List UInt8) (ap : Int) (jp : Bool) : Prop := (1 ≤ b → st = stOf b.toNat) ∧ ap ≤ g.sn ∧ (jp = true → st = stOf ap.toNat)
theorem RS.mono {b ap : Int} {st : List UInt8} {jp : Bool} (h : RS g b st ap jp) (hs : g.sn ≤ g'.sn) : RS g' b st ap jp := ⟨h.1, by have := h.2.1; omega, h.2.2⟩
structure RI (g : Gh) (n j : Nat) (R : PRaft) : Prop where
 ok : R.Ok
 me : R.me = j
 nn : R.n = n
 bt : R.bt = g.bt j
 ln : ∃ b, b ≤ (g.fl j).length ∧ R.line = lineOf (g.fl j) b
 vote : (R.bf = -1 ∧ g.vote j R.bt = none) ∨ ∃ c : Nat, R.bf = c ∧ g.vote j R.bt = some c
 cand : R.role = 1 → g.cl j R.bt = g.fl j ∧ g.ldr R.bt ≠ some j ∧ ∀ k : Nat, R.votes.getD k 0 ≠ 0 → k < n ∧ g.vote k R.bt = some j
 lead : R.role = 2 → g.ldr R.bt = some j ∧ g.gl R.bt = g.fl j ∧ (g.fl j).length ≤ g.ack j R.bt ∧ (∀ k : Nat, k < n → R.mat.getD k 0 ≤ g.ack k R.bt) ∧ ∀ k : Nat, k < n → 1 ≤ R.nxt.getD k 0 ∧ R.nxt.getD k 0 ≤ (g.fl j).length + 1
 com : g.Com n R.bt (g.fl j) R.commit.toNat
 st : RS g R.line.base R.state R.applied R.jumped
structure Lt (g : Gh) (n j : Nat) (who : Int) (x : PLet) : Prop where
 right : rightL x = true
 w0 : 0 ≤ who
 w1 : who < n
 wn : who ≠ j
 jn : j < n
 t : x.t ≤ g.bt j
 k1 : x.k = 1 → 1 ≤ x.t ∧ x.a = (g.cl j x.t).length ∧ x.u = tmL (g.cl j x.t) (g.cl j x.t).length
 k2 : x.k = 2 → x.y = true → g.vote j x.t = some who.toNat
 k3 : x.k = 3 → g.ldr x.t = some j ∧ ∃ a o : Nat, x.a = a ∧ x.o = o ∧ a + x.its.length ≤ (g.gl x.t).length ∧ x.u = tmL (g.gl x.t) a ∧ x.its = ((g.gl x.t).drop a).take x.its.length ∧ g.Co n x.t o
 k4 : x.k = 4 → x.y = true → ∃ a : Nat, x.a = a ∧ a ≤ g.ack j x.t
 k5 : x.k = 5 → g.ldr x.t = some j ∧ ∃ a : Nat, x.a = a ∧ 1 ≤ a ∧ a ≤ (g.gl x.t).length ∧ x.u = tmL (g.gl x.t) a ∧ g.Co n x.t a ∧ x.b = stOf a ∧ a ≤ g.sn
theorem some_ne {α : Type} {o : Option α} {x : α} (h : o = some x) : o ≠ none := by rw [h]; exact fun e => by cases e
theorem drop_pre {a b : List PItem} {i m : Nat} (h : a <+: b) (hi : i + m ≤ a.length) : (b.drop i).take m = (a.drop i).take m := by
 obtain ⟨c, rfl⟩ := h;rw [List.drop_append_of_le_length (by omega), List.take_append_of_le_length (by rw [List.length_drop]; omega)]
theorem Lt.ext {who : Int} {x : PLet} (h : Lt g n j who x) (hx : g.Ext g' n) : Lt g' n j who x := by
 refine ⟨h.right, h.w0, h.w1, h.wn, h.jn, Int.le_trans h.t (hx.bt j h.jn), fun hk => ?_, fun hk hy => hx.vote j x.t _ h.jn (h.k2 hk hy), fun hk => ?_, fun hk hy => ?_, fun hk => ?_⟩
 ·rw [hx.cl j x.t h.jn h.t]; exact h.k1 hk
 ·obtain ⟨h1, a, o, h2, h3, h4, h5, h6, h7⟩ := h.k3 hk;have hp := hx.gl x.t (some_ne h1);refine ⟨hx.ldr _ _ h1, a, o, h2, h3, Nat.le_trans h4 hp.length_le, by rw [tmL_pre hp (by omega)]; exact h5, ?_, hx.co h7 (Int.le_refl _)⟩;rw [drop_pre hp h4]; exact h6
 ·obtain ⟨a, h1, h2⟩ := h.k4 hk hy;exact ⟨a, h1, Nat.le_trans h2 (hx.ack j x.t h.jn)⟩
 ·obtain ⟨h1, a, h2, h3, h4, h5, h6, h7, h8⟩ := h.k5 hk;have hp := hx.gl x.t (some_ne h1);exact ⟨hx.ldr _ _ h1, a, h2, h3, Nat.le_trans h4 hp.length_le, by rw [tmL_pre hp (by omega)]; exact h5, hx.co h6 (Int.le_refl _), h7, Nat.le_trans h8 hx.sn⟩
theorem RI.jn (h : RI g n j R) : j < n := by have h1 := h.ok.men; have h2 := h.me; have h3 := h.nn; omega
theorem RI.other {d : Nat} (h : RI g n j R) (hs : g.Step g' n d) (hd : j ≠ d) : RI g' n j R := by
 have hx := hs.ext;have hj := h.jn;have hbt := h.bt;refine ⟨h.ok, h.me, h.nn, by rw [hs.bt j hd]; exact hbt, by rw [hs.fl j hd]; exact h.ln, by rw [hs.vote j _ hd]; exact h.vote, fun hr => ?_, fun hr => ?_, ?_, h.st.mono hx.sn⟩
 ·obtain ⟨h1, h2, h3⟩ := h.cand hr;refine ⟨by rw [hs.cl j _ hd, hs.fl j hd]; exact h1, fun e => ?_, fun k hv => ⟨(h3 k hv).1, hx.vote k _ _ (h3 k hv).1 (h3 k hv).2⟩⟩;have h4 := (hs.gl R.bt (by rw [e]; intro e9; injection e9 with e9; exact hd e9)).2;rw [h4] at e;exact h2 e
 ·obtain ⟨h1, h2, h3, h4, h5⟩ := h.lead hr;have e := hx.ldr _ _ h1;have h6 := (hs.gl R.bt (by rw [e]; intro e9; injection e9 with e9; exact hd e9)).1;refine ⟨e, by rw [h6, hs.fl j hd]; exact h2, by rw [hs.fl j hd, hs.ack j _ hd]; exact h3, fun k hk => ?_, by rw [hs.fl j hd]; exact h5⟩;have h7 := h4 k hk;have h8 := hx.ack k R.bt hk;omega
 ·exact hx.com h.com (Int.le_refl _) (by rw [hs.fl j hd]; exact h.com.1) (by rw [hs.fl j hd])
def Acted (d : Nat) (g : Gh) (n j : Nat) (R R' : PRaft) : Prop := ∃ g', g.Step g' n j ∧ g'.Ok n ∧ RI g' n j R' ∧ (∀ y ∈ R'.out, y ∈ R.out ∨ Lt g' n j y.1 y.2) ∧ g'.cnt ≤ g.cnt + d
theorem Acted.still {d : Nat} (hg : g.Ok n) (h : RI g n j R') (ho : R'.out = R.out) : Acted d g n j R R' := ⟨g, .refl g n j, hg, h, fun y hy => .inl (by rw [← ho]; exact hy), by omega⟩
theorem Acted.posts {d : Nat} (hg : g.Ok n) (h : RI g n j R') (ho : ∀ y ∈ R'.out, y ∈ R.out ∨ Lt g n j y.1 y.2) : Acted d g n j R R' := ⟨g, .refl g n j, hg, h, ho, by omega⟩
theorem Acted.more {R'' : PRaft} {d1 d2 d : Nat} (h : Acted d1 g n j R R') (k : ∀ g', g.Step g' n j → g'.Ok n → RI g' n j R' → Acted d2 g' n j R' R'') (hd : d1 + d2 ≤ d) : Acted d g n j R R'' := by
 obtain ⟨g1, h1, h2, h3, h4, h5⟩ := h;obtain ⟨g2, k1, k2, k3, k4, k5⟩ := k g1 h1 h2 h3;refine ⟨g2, h1.trans k1, k2, k3, fun y hy => ?_, by omega⟩;rcases k4 y hy with h5 | h5
 ·rcases h4 y h5 with h6 | h6
  ·exact .inl h6
  ·exact .inr (h6.ext k1.ext)
 ·exact .inr h5
theorem othersFrom_all {f : PRaft → Int → PRaft} {P : PPost → Prop} (m : Int) : ∀ (k : Nat) (i : Int) (R : PRaft), 0 ≤ i → i + k = m → (∀ (o : List PPost) (i : Int), 0 ≤ i → i < m → i ≠ R.me → ∃ y, f { R with out := o } i = { R with out := o ++ [y] } ∧ P y) → ∃ o, othersFrom f k i R = { R with out := R.out ++ o } ∧ ∀ y ∈ o, P y
 | 0, i, R, _, _, _ => ⟨[], by simp [othersFrom], by simp⟩
 | k + 1, i, R, h0, hm, hf => by
  unfold othersFrom;by_cases h : i = R.me
  ·rw [if_pos h];exact othersFrom_all m k (i + 1) R (by omega) (by omega) hf
  ·rw [if_neg h];obtain ⟨y, h1, h2⟩ := hf R.out i h0 (by omega) h;have h1 : f R i = { R with out := R.out ++ [y] } := h1;rw [h1];obtain ⟨o, h3, h4⟩ := othersFrom_all m k (i + 1) { R with out := R.out ++ [y] } (by omega) (by omega) (fun o i a b c => hf o i a b c);refine ⟨y :: o, ?_, fun z hz => ?_⟩
   ·rw [h3]
    simp
   ·rcases List.mem_cons.1 hz with rfl | hz
    ·exact h2
    ·exact h4 z hz
theorem others_all {f : PRaft → Int → PRaft} {P : PPost → Prop} (hn : 0 ≤ R.n) (hf : ∀ (o : List PPost) (i : Int), 0 ≤ i → i < R.n → i ≠ R.me → ∃ y, f { R with out := o } i = { R with out := o ++ [y] } ∧ P y) : ∃ o, R.others f = { R with out := R.out ++ o } ∧ ∀ y ∈ o, P y :=
 othersFrom_all R.n R.n.toNat 0 R (by omega) (by omega) hf
end
end Go.Proofs.YtogcnfhmcpkdcaaGreat
namespace Go.Proofs.YtogcnfhmcpkdcaaGreat
open Go.RowKit
set_option linter.unusedVariables false
set_option linter.unusedSimpArgs false
theorem agreed_cnt (zs : List Int) (h1 : 1 ≤ zs.length) (h7 : zs.length ≤ 7) : zs.length / 2 + 1 ≤ cntGe zs (agreed zs) := by
 have h := bestOf_agreed zs h1 h7;have h2 := (bestOf_inv zs zs).1;rw [h] at h2;exact (h2 rfl).2
theorem cntGe_snoc9 (zs : List Int) (x y : Int) : cntGe (zs ++ [y]) x = cntGe zs x + (if x ≤ y then 1 else 0) := by
 rw [cntGe_append]
 congr 1
 unfold cntGe;by_cases h : x ≤ y
 ·simp [h]
 ·simp [h]
theorem cntGe_cntP (zs : List Int) (x : Int) : ∀ i, i ≤ zs.length → cntGe (zs.take i) x = cntP i (fun k => decide (x ≤ zs.getD k 0)) := by
 intro i
 induction i with
 | zero => intro _; simp [cntGe, cntP]
 | succ i ih =>
  intro hi;have h1 : zs.take (i + 1) = zs.take i ++ [zs.getD i 0] := by
   rw [List.take_add_one, List.getElem?_eq_getElem (by omega)]
   congr 1
   rw [List.getD_eq_getElem?_getD, List.getElem?_eq_getElem (by omega)];rfl
  rw [h1, cntGe_snoc9, ih (by omega), cntP_succ]
  simp
theorem right_of {x : PLet} (hk : 1 ≤ x.k ∧ x.k ≤ 5) (ht : 0 ≤ x.t ∧ x.t ≤ 1099511627776) (ha : 0 ≤ x.a ∧ x.a ≤ 1099511627776) (hu : 0 ≤ x.u ∧ x.u ≤ 1099511627776) (ho : 0 ≤ x.o ∧ x.o ≤ 1099511627776) (hi : x.its.length ≤ 16) (hb : x.b.length ≤ 65536) (hr : ∀ it ∈ x.its, rightI it = true) (hus : x = usedL x) : rightL x = true := by
 have h1 : (x.its.any fun it => !rightI it) = false := by
  rw [List.any_eq_false];intro it hit;rw [hr it hit]; simp
 have h2 : sameL x (usedL x) = true := (sameL_iff _ _).2 hus;simp only [rightL, inM, Bool.and_eq_true, decide_eq_true_eq, h1, h2, Bool.not_false, and_true];exact ⟨⟨hk.1, hk.2, ht⟩, ⟨⟨ha, hu⟩, ho⟩, hi, hb⟩
theorem tmIs_bd {x : PLine} (hg : x.Good) (i : Int) : 0 ≤ (tmIs x i).1 ∧ (tmIs x i).1 ≤ 1099511627776 := by
 have h := hg.tm_le i;unfold tmIs;split
 ·rename_i h9; exact ⟨h9, h⟩
 ·exact ⟨Int.le_refl _, by simp⟩
section
variable {n j : Nat} {g g' : Gh} {R R' : PRaft}
theorem getD_set (l : List Int) (i k : Nat) (v : Int) (hi : i < l.length) : (l.set i v).getD k 0 = if k = i then v else l.getD k 0 := by
 rw [List.getD_eq_getElem?_getD, List.getD_eq_getElem?_getD, List.getElem?_set];by_cases h : i = k
 ·subst h;rw [if_pos rfl, if_pos hi, if_pos rfl]; rfl
 ·rw [if_neg h, if_neg (fun e => h e.symm)]
theorem RI.look (hg : g.Ok n) (h : RI g n j R) (hr : R.role = 2) : RI g n j R.look ∧ R.look.out = R.out := by
 obtain ⟨m, c, he, hm, hc⟩ := look_eq R;have hok := ok_look h.ok (h.ok.rb (by omega));obtain ⟨b, hb, hln⟩ := h.ln;obtain ⟨l1, l2, l3, l4, l5⟩ := h.lead hr;have hjn := h.jn;have hn := h.nn;have hn7 := h.ok.n7;have hm7 := h.ok.m7;have hlast : R.line.last = (g.fl j).length := by rw [hln]; exact lineOf_last hb
 have hmat : ∀ k : Nat, k < n → m.getD k 0 ≤ g.ack k R.bt := fun k hk => by
  rw [hm, h.me, hlast, show ((j : Int)).toNat = j by omega, getD_set _ _ _ _ (by omega)];by_cases e : k = j
  ·subst e; rw [if_pos rfl]; omega
  ·rw [if_neg e]; exact l4 k hk
 rw [he] at hok ⊢;refine ⟨⟨hok, h.me, h.nn, h.bt, h.ln, h.vote, h.cand, fun _ => ⟨l1, l2, l3, hmat, l5⟩, ?_, h.st⟩, rfl⟩;show g.Com n R.bt (g.fl j) c.toNat;rcases hc with rfl | ⟨h1, h2, h3⟩
 ·exact h.com
 ·have hb1 := h.ok.rb (by omega);have hc0 := h.ok.ap0; have hc1 := h.ok.ap1; have hb0 := h.ok.line.b0;obtain ⟨C, hC⟩ : ∃ C : Nat, c = C := ⟨c.toNat, by omega⟩
  have hgd := h.ok.line;rw [hln] at hgd;have h4 := lineOf_tmIs hgd hb C;rw [hln, hC, h4] at h3;have hin : b ≤ C ∧ C ≤ (g.fl j).length := by
   by_cases e : b ≤ C ∧ C ≤ (g.fl j).length
   ·exact e
   ·rw [if_neg e] at h3;have h3 : (0 : Int) = R.bt := h3;omega
  rw [if_pos hin] at h3;have h3 : tmL (g.fl j) C = R.bt := h3;rw [hC, show ((C : Int)).toNat = C by omega];have hC1 : 1 ≤ C := by
   by_cases e : C = 0
   ·rw [e] at h3;have h3 : (0 : Int) = R.bt := h3;omega
   ·omega
  refine ⟨hin.2, .inr ⟨R.bt, C, Int.le_refl _, ⟨some_ne l1, hC1, by rw [l2]; exact hin.2, by rw [l2]; exact h3, ?_⟩, Nat.le_refl _, by rw [l2]⟩⟩;have hml : m.length = 7 := by rw [hm]; simp [hm7]
  have hn0 : R.n.toNat = n := by omega
  rw [hn0] at h2;have htl : (m.take n).length = n := by rw [List.length_take]; omega
  have h5 := agreed_cnt (m.take n) (by omega) (by omega);rw [← h2, htl, cntGe_cntP m c n (by omega)] at h5;refine maj_mono h5 fun k hk hp => ?_
  simp only [decide_eq_true_eq] at hp ⊢;have h6 := hmat k hk;omega
theorem RI.send (hg : g.Ok n) (h : RI g n j R) (hr : R.role = 2) (o : List PPost) {i : Int} (h0 : 0 ≤ i) (h1 : i < R.n) (hi : i ≠ R.me) : ∃ y, PRaft.send { R with out := o } i = { R with out := o ++ [y] } ∧ Lt g n j y.1 y.2 := by
 obtain ⟨b, hb, hln⟩ := h.ln;obtain ⟨l1, l2, l3, l4, l5⟩ := h.lead hr;have hjn := h.jn;have hn := h.nn;have hme := h.me;have hbt := h.bt;have hok := h.ok;have hgd := hok.line;have hlb := last_bounds hgd;have hlast : R.line.last = (g.fl j).length := by rw [hln]; exact lineOf_last hb
 have hbase : R.line.base = b := by rw [hln]; rfl
 obtain ⟨x1, x2⟩ := l5 i.toNat (by omega);have hnx : ((PRaft.send { R with out := o } i) = if R.nxt.getD i.toNat 0 ≤ R.line.base then ({ R with out := o } : PRaft).post i ⟨5, 0, R.line.base, R.line.term, 0, false, [], R.state⟩ else ({ R with out := o } : PRaft).post i ⟨3, 0, R.nxt.getD i.toNat 0 - 1, (tmIs R.line (R.nxt.getD i.toNat 0 - 1)).1, R.commit, false, R.line.from_ (R.nxt.getD i.toNat 0 - 1 + 1) 16, []⟩) := rfl;rw [hnx];have hbt0 := hok.bt0; have hbt1 := hok.bt1;have hb0 := hgd.b0; have hb1 := hgd.b1; have ht0 := hgd.t0; have ht1 := hgd.t1;have hap0 := hok.ap0; have hap1 := hok.ap1; have hcm := hok.cm;split
 ·rename_i hle
  refine ⟨_, rfl, ?_⟩;have hst := h.st.1 (by omega);refine ⟨right_of (by simp) ⟨hbt0, hbt1⟩ ⟨hb0, hb1⟩ ⟨ht0, ht1⟩ (by simp) (by simp) (by show R.state.length ≤ 65536; exact hok.st) (by simp) rfl, h0, by show i < n; omega, by show i ≠ j; omega, hjn, by show R.bt ≤ g.bt j; omega, fun e => by simp at e, fun e => by simp at e, fun e => by simp at e, fun e => by simp at e, fun _ => ⟨l1, b, hbase, by omega, by show b ≤ (g.gl R.bt).length; rw [l2]; exact hb, ?_, ?_, ?_, by have h9 := h.st.2.1; omega⟩⟩
  ·show R.line.term = tmL (g.gl R.bt) b;rw [l2, hln]; rfl
  ·have h9 := h.com.co;rcases h9 with h9 | ⟨T1, i1, h9, h8, h7⟩
   ·exact .inl (by omega)
   ·exact .inr ⟨T1, i1, h9, h8, by omega⟩
  ·show R.state = stOf b;rw [hst, hbase]; congr 1
 ·rename_i hle
  refine ⟨_, rfl, ?_⟩;obtain ⟨p, hp⟩ : ∃ p : Nat, R.nxt.getD i.toNat 0 - 1 = p := ⟨(R.nxt.getD i.toNat 0 - 1).toNat, by omega⟩
  rw [hp];rw [hln] at hgd;have htm : (tmIs R.line (p : Int)).1 = tmL (g.fl j) p := by
   rw [hln, lineOf_tmIs hgd hb p, if_pos ⟨by omega, by omega⟩]
  have hfr : R.line.from_ ((p : Int) + 1) 16 = ((g.fl j).drop p).take 16 := by
   have h9 := lineOf_from hb (i := p + 1) (by omega) (m := 16) (by omega);rw [hln];exact h9
  have hbd := tmIs_bd hok.line (p : Int);have hil : (((g.fl j).drop p).take 16).length = min 16 ((g.fl j).length - p) := by rw [List.length_take, List.length_drop]
  refine ⟨right_of (by simp) ⟨hbt0, hbt1⟩ ⟨by show (0 : Int) ≤ (p : Int); omega, by show (p : Int) ≤ _; omega⟩ hbd ⟨by show 0 ≤ R.commit; omega, by show R.commit ≤ _; omega⟩ (by show (R.line.from_ ((p : Int) + 1) 16).length ≤ 16; rw [hfr, hil]; omega) (by simp) (fun it hit => ?_) rfl, h0, by show i < n; omega, by show i ≠ j; omega, hjn, by show R.bt ≤ g.bt j; omega, fun e => by simp at e, fun e => by simp at e, fun _ => ⟨l1, p, R.commit.toNat, rfl, by show R.commit = _; omega, ?_, ?_, ?_, h.com.co⟩, fun e => by simp at e, fun e => by simp at e⟩
  ·have hit : it ∈ R.line.from_ ((p : Int) + 1) 16 := hit;unfold PLine.from_ at hit;split at hit
   ·cases hit
   ·exact hok.line.its it (List.mem_of_mem_drop (List.mem_of_mem_take hit))
  ·show p + (R.line.from_ ((p : Int) + 1) 16).length ≤ (g.gl R.bt).length;rw [hfr, hil, l2]; omega
  ·show (tmIs R.line (p : Int)).1 = tmL (g.gl R.bt) p;rw [htm, l2]
  ·show R.line.from_ ((p : Int) + 1) 16 = ((g.gl R.bt).drop p).take (R.line.from_ ((p : Int) + 1) 16).length;rw [hfr, l2, hil];by_cases h9 : 16 ≤ (g.fl j).length - p
   ·rw [Nat.min_eq_left h9]
   ·rw [Nat.min_eq_right (by omega), List.take_of_length_le (by rw [List.length_drop]; omega), List.take_of_length_le (by rw [List.length_drop]; omega)]
theorem RI.outs (h : RI g n j R) (o : List PPost) : RI g n j { R with out := o } := ⟨h.ok.out o, h.me, h.nn, h.bt, h.ln, h.vote, h.cand, h.lead, h.com, h.st⟩
theorem RI.beat {d : Nat} (hg : g.Ok n) (h : RI g n j R) (hr : R.role = 2) : Acted d g n j R (R.others PRaft.send) := by
 have h1 := h.ok.n1;obtain ⟨o, h2, h3⟩ := others_all (R := R) (f := PRaft.send) (P := fun y => Lt g n j y.1 y.2) (by omega) (fun o i a b c => h.send hg hr o a b c);rw [h2];refine .posts hg (h.outs _) fun y hy => ?_
 rcases List.mem_append.1 hy with h4 | h4
 ·exact .inl h4
 ·exact .inr (h3 y h4)
end
end Go.Proofs.YtogcnfhmcpkdcaaGreat
namespace Go.Proofs.YtogcnfhmcpkdcaaGreat
open Go.RowKit
set_option linter.unusedVariables false
set_option linter.unusedSimpArgs false
theorem cntP_wide {p q : Nat → Bool} {n : Nat} : ∀ m, (∀ k, k < m → p k = true → k < n ∧ q k = true) → cntP m p ≤ cntP n q := by
 intro m h;have h1 : cntP m p ≤ cntP m (fun k => decide (k < n) && q k) := cntP_mono fun k hk hp => by
  obtain ⟨a, b⟩ := h k hk hp;simp [a, b]
 have h2 : ∀ m, cntP m (fun k => decide (k < n) && q k) ≤ cntP n q := by
  intro m;have h3 : ∀ i, i ≤ n → cntP i (fun k => decide (k < n) && q k) ≤ cntP i q := fun i _ => cntP_mono fun k _ hp => by simp at hp; exact hp.2
  have h4 : ∀ d, cntP (n + d) (fun k => decide (k < n) && q k) = cntP n (fun k => decide (k < n) && q k) := by
   intro d
   induction d with
   | zero => rfl
   | succ d ih =>
    rw [show n + (d + 1) = n + d + 1 by omega, cntP_succ, ih, if_neg (by simp only [Bool.and_eq_true, decide_eq_true_eq]; omega)];rfl
  have h5 : ∀ d i, cntP i q ≤ cntP (i + d) q := by
   intro d
   induction d with
   | zero => intro i; exact Nat.le_refl _
   | succ d ih =>
    intro i;rw [show i + (d + 1) = i + d + 1 by omega, cntP_succ];exact Nat.le_trans (ih i) (Nat.le_add_right _ _)
  by_cases hm : m ≤ n
  ·refine Nat.le_trans (h3 m hm) ?_;have h6 := h5 (n - m) m
   rwa [show m + (n - m) = n by omega] at h6
  ·have h6 := h4 (m - n);rw [show n + (m - n) = m by omega] at h6;rw [h6];exact h3 n (Nat.le_refl _)
 exact Nat.le_trans h1 (h2 m)
theorem sumI_snoc (l : List Int) (x : Int) : sumI (l ++ [x]) = sumI l + x := by
 induction l with
 | nil => simp [sumI]
 | cons y l ih => simp only [List.cons_append, sumI, ih]; omega
theorem sumI_cnt (l : List Int) (h : ∀ x ∈ l, 0 ≤ x ∧ x ≤ 1) : ∀ i, i ≤ l.length → sumI (l.take i) = cntP i (fun k => decide (l.getD k 0 ≠ 0)) := by
 intro i
 induction i with
 | zero => intro _; simp [sumI, cntP]
 | succ i ih =>
  intro hi;have h0 := h l[i] (List.getElem_mem (by omega));have e : l.getD i 0 = l[i] := by
   rw [List.getD_eq_getElem?_getD, List.getElem?_eq_getElem (by omega)]; rfl
  have h1 : l.take (i + 1) = l.take i ++ [l.getD i 0] := by
   rw [List.take_add_one, List.getElem?_eq_getElem (by omega), e];rfl
  rw [h1, sumI_snoc, ih (by omega), cntP_succ, e];by_cases h2 : l[i] = 0
  ·simp [h2]
  ·have h3 : l[i] = 1 := by omega
   simp [h3]
section
variable {n j : Nat} {g g' : Gh} {R R' : PRaft}
theorem RI.maj (hg : g.Ok n) (h : RI g n j R) (hr : R.role = 1) (he : enough R.n ≤ sumI R.votes) : Maj n (fun k => decide (g.vote k R.bt = some j)) ∧ g.ldr R.bt = none := by
 obtain ⟨c1, c2, c3⟩ := h.cand hr;have hn := h.nn;have hn1 := h.ok.n1;have hn7 := h.ok.n7;have hm : Maj n (fun k => decide (g.vote k R.bt = some j)) := by
  have h1 : enough R.n = ((n / 2 + 1 : Nat) : Int) := by
   unfold enough;rw [if_neg (by omega), hn];omega
  have h2 := sumI_cnt R.votes h.ok.vs R.votes.length (Nat.le_refl _);rw [List.take_length] at h2;rw [h1, h2] at he;have h3 := cntP_wide (p := fun k => decide (R.votes.getD k 0 ≠ 0)) (q := fun k => decide (g.vote k R.bt = some j)) (n := n) R.votes.length (fun k _ hp => by
   simp only [decide_eq_true_eq] at hp ⊢;exact c3 k hp)
  unfold Maj;omega
 refine ⟨hm, ?_⟩;cases hl : g.ldr R.bt with
 | none => rfl
 | some d => exact absurd (by rw [hl, hg.ldrOne hm hl]) c2
theorem RI.add (hg : g.Ok n) (h : RI g n j R) (hr : R.role = 2) {it : PItem} (hit : it.1 = R.bt) (hib : it.2.length ≤ 50) : Acted 1 g n j R (R.add it).1 := by
 obtain ⟨b, hb, hln⟩ := h.ln;obtain ⟨l1, l2, l3, l4, l5⟩ := h.lead hr;have hjn := h.jn;have hbt := h.bt;have hok := ok_add h.ok it;rcases lineOf_add hb it with e | e
 ·have he : (R.add it).1 = { R with line := lineOf (g.fl j ++ [it]) b } := by
   unfold PRaft.add; rw [hln, e]
  rw [he] at hok ⊢;rw [hbt] at l1 l2 hit;have hs := Gh.append_step hg hjn (it := it) l1 l2;have hx := hs.ext;have hk := Gh.append_ok hg hjn (it := it) l1 l2 hit hib;have e1 : (g.append j it).fl j = g.fl j ++ [it] := setN_same _ _ _;have e2 : (g.append j it).gl R.bt = g.fl j ++ [it] := by rw [hbt]; exact setT_same _ _ _
  have e3 : (g.append j it).ack j R.bt = (g.fl j).length + 1 := by rw [hbt]; exact setNT_same _ _ _ _
  refine ⟨g.append j it, hs, hk, ⟨hok, h.me, h.nn, hbt, ⟨b, by rw [e1, List.length_append]; omega, by rw [e1]⟩, h.vote, fun hr9 => ?_, fun _ => ⟨?_, ?_, ?_, fun k hk9 => ?_, fun k hk9 => ?_⟩, ?_, ⟨fun hb9 => ?_, h.st.2.1, h.st.2.2⟩⟩, fun y hy => .inl hy, Nat.le_refl _⟩
  ·have hr9 : R.role = 1 := hr9;omega
  ·show g.ldr R.bt = some j;rw [hbt]; exact l1
  ·rw [e1, ← e2]
  ·rw [e1];show (g.fl j ++ [it]).length ≤ (g.append j it).ack j R.bt;rw [e3, List.length_append, List.length_singleton]; exact Nat.le_refl _
  ·have h8 := l4 k hk9;have h9 := hx.ack k R.bt hk9;show R.mat.getD k 0 ≤ ((g.append j it).ack k R.bt : Int);omega
  ·rw [e1, List.length_append, List.length_singleton];have h8 := l5 k hk9;show 1 ≤ R.nxt.getD k 0 ∧ R.nxt.getD k 0 ≤ _;omega
  ·show (g.append j it).Com n R.bt ((g.append j it).fl j) R.commit.toNat;rw [e1];exact hx.com h.com (Int.le_refl _) (by rw [List.length_append]; have := h.com.1; omega) (take_snoc h.com.1)
  ·have h8 := h.st.1 (by rw [hln]; exact hb9);show R.state = stOf b;rw [h8, hln];rfl
 ·have he : (R.add it).1 = R := by
   unfold PRaft.add; rw [hln, e, ← hln]
  rw [he];exact .still hg h rfl
theorem RI.noted (h : RI g n j R) (l : List (List UInt8)) : RI g n j { R with news := l } := ⟨h.ok.nws l, h.me, h.nn, h.bt, h.ln, h.vote, h.cand, h.lead, h.com, h.st⟩
theorem RI.ticked (h : RI g n j R) {k : Int} (h0 : 0 ≤ k) (h1 : k ≤ 40) : RI g n j { R with ticks := k } := ⟨h.ok.tick0 h0 h1, h.me, h.nn, h.bt, h.ln, h.vote, h.cand, h.lead, h.com, h.st⟩
theorem RI.lookSend {d : Nat} (hg : g.Ok n) (h : RI g n j R) (hr : R.role = 2) : Acted d g n j R (R.look.others PRaft.send) := by
 obtain ⟨h1, h2⟩ := h.look hg hr;refine (Acted.still (d := 0) hg h1 h2).more (d2 := 0) (fun g1 _ hg1 h3 => h3.beat hg1 ?_) (Nat.zero_le _);obtain ⟨m, c, he, -⟩ := look_eq R;rw [he]; exact hr
theorem RI.goLead (hg : g.Ok n) (h : RI g n j R) (hr : R.role = 1) (he : enough R.n ≤ sumI R.votes) : Acted 1 g n j R R.goLead := by
 obtain ⟨hm, hl⟩ := h.maj hg hr he;obtain ⟨c1, c2, c3⟩ := h.cand hr;obtain ⟨b, hb, hln⟩ := h.ln;have hjn := h.jn;have hbt := h.bt;have hb1 := h.ok.rb (by omega);have hlast : R.line.last = (g.fl j).length := by rw [hln]; exact lineOf_last hb
 rw [hbt] at hl hm c1 hb1;have hs := Gh.lead_step hg hjn hl;have hk := Gh.lead_ok hg hjn hb1 hl hm c1;have hx := hs.ext;have e2 : (g.lead j).gl R.bt = g.fl j := by rw [hbt]; exact setT_same _ _ _
 have e3 : (g.lead j).ack j R.bt = (g.fl j).length := by rw [hbt]; exact setNT_same _ _ _ _
 have e4 : (g.lead j).ldr R.bt = some j := by rw [hbt]; exact setT_same _ _ _
 have h0 : Acted 0 g n j R R.lead0 := by
  refine ⟨g.lead j, hs, hk, ⟨ok_lead0 h.ok (h.ok.rb (by omega)), h.me, h.nn, hbt, h.ln, h.vote, fun hr9 => ?_, fun _ => ⟨e4, e2, by show (g.fl j).length ≤ (g.lead j).ack j R.bt; rw [e3]; exact Nat.le_refl _, fun k hk9 => ?_, fun k hk9 => ?_⟩, hx.com h.com (Int.le_refl _) h.com.1 rfl, h.st⟩, fun y hy => .inl hy, Nat.le_refl _⟩
  ·have hr9 : (2 : Int) = 1 := hr9;omega
  ·show zeros7.getD k 0 ≤ _;have hz : zeros7.getD k 0 = 0 := by
    rw [List.getD_eq_getElem?_getD];cases hq : zeros7[k]? with
    | none => rfl
    | some y =>
     have hm9 := List.mem_of_getElem? hq;simp [zeros7] at hm9;subst hm9; rfl
   rw [hz];exact Int.natCast_nonneg _
  ·show 1 ≤ (List.replicate 7 (R.line.last + 1)).getD k 0 ∧ _;have hn7 := h.ok.n7; have hn := h.nn;have hq : (List.replicate 7 (R.line.last + 1)).getD k 0 = R.line.last + 1 := by
    rw [List.getD_eq_getElem?_getD, List.getElem?_replicate, if_pos (by omega)]; rfl
   show 1 ≤ (List.replicate 7 (R.line.last + 1)).getD k 0 ∧ (List.replicate 7 (R.line.last + 1)).getD k 0 ≤ ((g.fl j).length : Int) + 1;rw [hq, hlast];omega
 refine Acted.more (R' := R.lead1) (d1 := 1) (d2 := 0) ?_ (fun g1 _ hg1 h3 => ?_) (Nat.le_refl _)
 ·refine h0.more (d2 := 1) (fun g1 _ hg1 h3 => ?_) (Nat.le_refl _);have h4 := h3.add hg1 rfl (it := (R.bt, [])) rfl (by simp);unfold PRaft.lead1;simp only;split
  ·exact h4.more (d2 := 0) (fun g2 _ hg2 h5 => .still hg2 (h5.noted _) rfl) (Nat.le_refl _)
  ·exact h4
 ·unfold PRaft.goLead;refine h3.lookSend hg1 ?_;obtain ⟨l, nw, e⟩ := lead1_eq R;rw [e]; rfl
theorem RI.count (hg : g.Ok n) (h : RI g n j R) (hr : R.role = 1) {f : Nat} (hf : f < n) (hv : g.vote f R.bt = some j) : Acted 1 g n j R (R.count f) := by
 obtain ⟨c1, c2, c3⟩ := h.cand hr;have hn7 := h.ok.n7; have hn := h.nn;have h1 : RI g n j { R with votes := R.votes.set f 1 } := by
  refine ⟨h.ok.voted (by simp [h.ok.v7]) (set_bound h.ok.vs (by omega)), h.me, h.nn, h.bt, h.ln, h.vote, fun _ => ⟨c1, c2, fun k hk => ?_⟩, h.lead, h.com, h.st⟩;have hk : (R.votes.set f 1).getD k 0 ≠ 0 := hk;rw [getD_set _ _ _ _ (by rw [h.ok.v7]; omega)] at hk;by_cases e : k = f
  ·subst e; exact ⟨hf, hv⟩
  ·rw [if_neg e] at hk; exact c3 k hk
 unfold PRaft.count;simp only;rw [show ((f : Int)).toNat = f by omega];split
 ·rename_i he
  exact (Acted.still (R := R) (d := 0) hg h1 rfl).more (fun g1 _ hg1 h2 => h2.goLead hg1 hr he) (Nat.le_refl _)
 ·exact .still hg h1 rfl
end
end Go.Proofs.YtogcnfhmcpkdcaaGreat
namespace Go.Proofs.YtogcnfhmcpkdcaaGreat
open Go.RowKit
set_option linter.unusedVariables false
set_option linter.unusedSimpArgs false
section
variable {n j : Nat} {g g' : Gh} {R R' : PRaft}
theorem RI.stand0 (hg : g.Ok n) (h : RI g n j R) (hb : R.bt < 1099511627776) : ∃ g', g.Step g' n j ∧ g'.Ok n ∧ RI g' n j R.stand0 ∧ g'.cl j (R.bt + 1) = g.fl j ∧ g'.vote j (R.bt + 1) = some j ∧ g'.fl j = g.fl j ∧ g'.cnt = g.cnt := by
 have hjn := h.jn;have hbt := h.bt;have hb0 := h.ok.bt0;have hlt : g.bt j < R.bt + 1 := by omega
 have s1 := Gh.stand_step (n := n) hg hlt;have o1 := Gh.stand_ok hg hjn hlt;obtain ⟨g1, hg1⟩ : ∃ g1, g1 = g.stand j (R.bt + 1) := ⟨_, rfl⟩
 have e1 : g1.bt j = R.bt + 1 := by rw [hg1]; exact setN_same _ _ _
 have e2 : g1.cl j (R.bt + 1) = g.fl j := by rw [hg1]; exact setNT_same _ _ _ _
 have e3 : g1.fl j = g.fl j := by rw [hg1]; rfl
 have e4 : g1.vote j (R.bt + 1) = none := by
  rw [hg1]; exact hg.voten hjn hlt
 have e5 : ∀ T, g1.ldr T = g.ldr T := fun T => by rw [hg1]; rfl
 rw [← hg1] at s1 o1;have hv : g1.vote j (g1.bt j) = none := by rw [e1]; exact e4
 have s2 := Gh.cast_step (n := n) hv j;have o2 := Gh.cast_ok o1 (c := j) hv hjn (by rw [e1]; omega) (Int.le_refl _) (fun T0 i h1 h2 h3 h4 h5 => by
  rw [e1, e2, ← e3];exact o1.ackAll hjn h2 h3 h4 h5)
 have e6 : (g1.cast j j).vote j (R.bt + 1) = some j := by
  show setNT g1.vote j (g1.bt j) (some j) j (R.bt + 1) = _;rw [e1]; exact setNT_same _ _ _ _
 have hx := (s1.trans s2).ext;refine ⟨g1.cast j j, s1.trans s2, o2, ⟨ok_stand0 h.ok hb, h.me, h.nn, e1.symm, ?_, .inr ⟨j, h.me, e6⟩, fun _ => ⟨?_, fun hl => ?_, fun k hk => ?_⟩, fun hr => ?_, ?_, h.st.mono hx.sn⟩, e2, e6, e3, by rw [show (g1.cast j j).cnt = g1.cnt from rfl, hg1]; rfl⟩
 ·show ∃ b, b ≤ (g1.fl j).length ∧ R.line = lineOf (g1.fl j) b;rw [e3]; exact h.ln
 ·show g1.cl j (R.bt + 1) = g1.fl j;rw [e2, e3]
 ·have hl : g1.ldr (R.bt + 1) = some j := hl;rw [e5] at hl;have h9 := (hg.ldrBt _ _ hl).1;omega
 ·exfalso;have hk : zeros7.getD k 0 ≠ 0 := hk;apply hk;rw [List.getD_eq_getElem?_getD];cases hq : zeros7[k]? with
  | none => rfl
  | some y =>
   have hm9 := List.mem_of_getElem? hq;simp [zeros7] at hm9;subst hm9; rfl
 ·have hr : (1 : Int) = 2 := hr;omega
 ·show (g1.cast j j).Com n (R.bt + 1) (g1.fl j) R.commit.toNat;rw [e3];exact hx.com h.com (by omega) h.com.1 rfl
theorem RI.stand (hg : g.Ok n) (h : RI g n j R) : Acted 1 g n j R R.stand := by
 unfold PRaft.stand;split
 ·exact .still hg (h.ticked (by omega) (by omega)) rfl
 ·rename_i hb
  obtain ⟨g1, s1, o1, r1, e1, e2, e3, e4⟩ := h.stand0 hg (by omega);obtain ⟨b, hb9, hln⟩ := h.ln;have hlast : R.line.last = (g.fl j).length := by rw [hln]; exact lineOf_last hb9
  have hgd := h.ok.line;have hlb := last_bounds hgd;have htb := tmIs_bd hgd R.line.last;have htm : (tmIs R.line R.line.last).1 = tmL (g.fl j) (g.fl j).length := by
   rw [hlast, hln];rw [hln] at hgd;rw [lineOf_tmIs hgd hb9, if_pos ⟨hb9, Nat.le_refl _⟩]
  have hn1 := h.ok.n1;have hb0 := h.ok.bt0;have hnn := h.nn;have hme := h.me;have hjn := h.jn;have hbt1 : R.bt + 1 = g1.bt j := r1.bt;obtain ⟨o, h2, h3⟩ := others_all (R := R.stand0) (f := fun S who => S.post who ⟨1, 0, R.line.last, (tmIs R.line R.line.last).1, 0, false, [], []⟩) (P := fun y => Lt g1 n j y.1 y.2) (by show 0 ≤ R.n; omega) (fun o i a b c => by
   have b : i < R.n := b;have c : i ≠ R.me := c;refine ⟨_, rfl, ⟨right_of (by simp) ⟨by show 0 ≤ R.bt + 1; omega, by show R.bt + 1 ≤ _; omega⟩ hlb htb (by simp) (by simp) (by simp) (by simp) rfl, a, by show i < n; omega, by show i ≠ j; omega, hjn, by show R.bt + 1 ≤ g1.bt j; omega, fun _ => ⟨by show 1 ≤ R.bt + 1; omega, ?_, ?_⟩, fun e => by simp [PRaft.post] at e, fun e => by simp at e, fun e => by simp at e, fun e => by simp at e⟩⟩
   ·show R.line.last = (g1.cl j (R.bt + 1)).length;rw [e1, hlast]
   ·show (tmIs R.line R.line.last).1 = tmL (g1.cl j (R.bt + 1)) (g1.cl j (R.bt + 1)).length;rw [e1, htm])
  rw [h2];refine Acted.more (R' := { R.stand0 with out := R.stand0.out ++ o }) (d1 := 0) (d2 := 1) ⟨g1, s1, o1, r1.outs _, fun y hy => ?_, Nat.le_of_eq e4⟩ (fun g2 _ o2 r2 => ?_) (Nat.le_refl _)
  ·rcases List.mem_append.1 hy with h5 | h5
   ·exact .inl h5
   ·exact .inr (h3 y h5)
  ·rw [hme];refine r2.count o2 rfl hjn ?_;rcases r2.vote with ⟨h5, -⟩ | ⟨c, h5, h6⟩
   ·have h5 : R.me = -1 := h5;omega
   ·have h5 : R.me = c := h5;have : c = j := by omega
    subst this;exact h6
theorem RI.tick (hg : g.Ok n) (h : RI g n j R) : Acted 1 g n j R R.tick := by
 have h0 := h.ok.tk0; have h1 := h.ok.tk1;unfold PRaft.tick;simp only;split
 ·rename_i h2
  exact (Acted.still (R := R) (d := 0) hg (h.ticked (k := 0) (by omega) (by omega)) rfl).more (d2 := 0) (fun g1 _ hg1 h3 => h3.beat hg1 h2.1) (Nat.zero_le _)
 ·split
  ·have e : ({ R with ticks := R.ticks + 1 } : PRaft).stand = R.stand := by
    unfold PRaft.stand; simp only; rfl
   rw [e];exact h.stand hg
  ·rename_i h5 h6
   refine .still hg ⟨?_, h.me, h.nn, h.bt, h.ln, h.vote, h.cand, h.lead, h.com, h.st⟩ rfl;have h9 := ok_tick h.ok;unfold PRaft.tick at h9;simp only at h9;rw [if_neg h5, if_neg h6] at h9;exact h9
theorem RI.propose (hg : g.Ok n) (h : RI g n j R) {b : List UInt8} (hb : b.length ≤ 50) : Acted 1 g n j R (R.propose b).1 := by
 unfold PRaft.propose;split
 ·exact .still hg h rfl
 ·rename_i hr
  split
  ·exact .still hg h rfl
  ·split
   ·exact .still hg h rfl
   ·simp only;split
    ·exact .still hg h rfl
    ·have hr2 : R.role = 2 := by omega
     refine Acted.more (R' := (R.add (R.bt, b)).1.noteItems (R.add (R.bt, b)).2) (d1 := 1) (d2 := 0) ?_ (fun g1 _ hg1 h3 => ?_) (Nat.le_refl _)
     ·exact (h.add hg hr2 rfl hb).more (d2 := 0) (fun g1 _ hg1 h3 => .still hg1 (h3.noted _) rfl) (Nat.le_refl _)
     ·exact h3.lookSend hg1 hr2
theorem RI.compact (h : RI g n j R) (hj : R.jumped = false) {s : List UInt8} (hs : s = stOf R.applied.toNat) : RI g n j (R.compact s).1 := by
 have hok := ok_compact h.ok s;unfold PRaft.compact at hok ⊢;split
 ·exact h
 ·rename_i h9
  rw [if_neg h9] at hok;obtain ⟨b, hb, hln⟩ := h.ln;have hgd := h.ok.line;have ha0 := h.ok.ap0; have ha1 := h.ok.ap1; have ha2 := h.ok.cm; have hb0 := hgd.b0;have hlast : R.line.last = (g.fl j).length := by rw [hln]; exact lineOf_last hb
  have hbase : R.line.base = b := by rw [hln]; rfl
  obtain ⟨a, ha⟩ : ∃ a : Nat, R.applied = a := ⟨R.applied.toNat, by omega⟩
  rw [hln] at hgd;have hd : R.line.drop R.applied = (lineOf (g.fl j) a, true) := by
   rw [hln, ha]; exact lineOf_drop hgd hb (by omega) (by omega)
  have e : ({ R with line := (R.line.drop R.applied).1, state := s } : PRaft) = { R with line := lineOf (g.fl j) a, state := s } := by rw [hd]
  show RI g n j ({ R with line := (R.line.drop R.applied).1, state := s } : PRaft);have hok : ({ R with line := (R.line.drop R.applied).1, state := s } : PRaft).Ok := hok;rw [e] at hok ⊢;refine ⟨hok, h.me, h.nn, h.bt, ⟨a, by omega, rfl⟩, h.vote, h.cand, h.lead, h.com, ⟨fun _ => ?_, h.st.2.1, fun e => by rw [hj] at e; cases e⟩⟩;show s = stOf ((a : Int)).toNat;rw [hs, ha]
theorem ok_bare {R : PRaft} (h : R.Ok) : R.bare.base.Ok := by
 have h0 := ok_new (me := R.me) (n := R.n) h.n1 h.n7 h.me0 h.men;have hl : R.line.last = R.line.base + (R.line.l.length : Int) := rfl;exact { h0 with bt0 := h.bt0, bt1 := h.bt1, bf0 := h.bf0, bf1 := h.bf1, line := h.line, ap0 := Int.le_refl _, ap1 := Int.le_refl _, cm := by show R.line.base ≤ R.line.last; omega, rb := fun h9 => absurd rfl h9, st := h.st }
theorem RI.load (h : RI g n j R) : RI g n j R.bare.base := by
 refine ⟨ok_bare h.ok, h.me, h.nn, h.bt, h.ln, h.vote, fun hr => ?_, fun hr => ?_, h.com.le ?_, ⟨h.st.1, by have h1 := h.st.2.1; have h2 := h.ok.ap0; show R.line.base ≤ _; omega, fun e => by cases e⟩⟩
 ·have hr : (0 : Int) = 1 := hr;omega
 ·have hr : (0 : Int) = 2 := hr;omega
 ·show R.line.base.toNat ≤ R.commit.toNat;have h1 := h.ok.ap0; have h2 := h.ok.ap1;omega
end
end Go.Proofs.YtogcnfhmcpkdcaaGreat
namespace Go.Proofs.YtogcnfhmcpkdcaaGreat
open Go.RowKit
set_option linter.unusedVariables false
set_option linter.unusedSimpArgs false
section
variable {n j f : Nat} {g g' : Gh} {R R' : PRaft} {x : PLet}
theorem RI.stepUp {d : Nat} (hg : g.Ok n) (h : RI g n j R) {t : Int} (ht : t ≤ 1099511627776) : Acted d g n j R (R.stepUp t) ∧ t ≤ (R.stepUp t).bt := by
 have hok := ok_stepUp h.ok ht;unfold PRaft.stepUp at hok ⊢;split
 ·rename_i hlt
  rw [if_pos hlt] at hok;have hbt := h.bt;have hlt' : g.bt j < t := by omega
  have hs := Gh.term_step (n := n) hg hlt';refine ⟨⟨g.term j t, hs, Gh.term_ok hg hlt', ⟨hok, h.me, h.nn, ?_, h.ln, .inl ⟨rfl, ?_⟩, fun hr => ?_, fun hr => ?_, ?_, h.st⟩, fun y hy => .inl hy, Nat.le_add_right _ _⟩, Int.le_refl _⟩
  ·exact (setN_same g.bt j t).symm
  ·exact hg.voten h.jn hlt'
  ·have hr : (0 : Int) = 1 := hr;omega
  ·have hr : (0 : Int) = 2 := hr;omega
  ·exact hs.ext.com h.com (by show R.bt ≤ t; omega) h.com.1 rfl
 ·rename_i hlt
  exact ⟨.still hg h rfl, by omega⟩
theorem RI.posted {d : Nat} (hg : g.Ok n) (h : RI g n j R) {who : Int} {x : PLet} (hl : Lt g n j who { x with t := R.bt }) : Acted d g n j R (R.post who x) :=
 .posts hg (h.outs _) fun y hy => by
  rcases List.mem_append.1 hy with h1 | h1
  ·exact .inl h1
  ·rw [List.mem_singleton] at h1;subst h1;exact .inr hl
theorem RI.no (h : RI g n j R) (hf : f < n) (hfj : f ≠ j) {k a o : Int} (hk : k = 2 ∨ k = 4) (ha : 0 ≤ a ∧ a ≤ 1099511627776) (ho : 0 ≤ o ∧ o ≤ 1099511627776) (hz : k = 2 → a = 0 ∧ o = 0) : Lt g n j f { (⟨k, 0, a, 0, o, false, [], []⟩ : PLet) with t := R.bt } := by
 have hbt := h.bt;refine ⟨right_of ⟨by show 1 ≤ k; omega, by show k ≤ 5; omega⟩ ⟨h.ok.bt0, h.ok.bt1⟩ ha (by simp) ho (by simp) (by simp) (by simp) ?_, by omega, by omega, by omega, h.jn, by show R.bt ≤ _; omega, fun e => ?_, fun _ e => (by cases e), fun e => ?_, fun _ e => (by cases e), fun e => ?_⟩
 ·rcases hk with rfl | rfl
  ·obtain ⟨h1, h2⟩ := hz rfl;subst h1 h2;rfl
  ·rfl
 ·have e : k = 1 := e;omega
 ·have e : k = 3 := e;omega
 ·have e : k = 5 := e;omega
theorem Gh.Ok.newer (hg : g.Ok n) (hj : j < n) (hf : f < n) {T : Int} {C : List PItem} (hC : g.cl f T = C) (han : asNew (C.length : Int) (tmL C C.length) (((g.fl j).length : Nat) : Int) (tmL (g.fl j) (g.fl j).length) = true) {T0 : Int} {i : Nat} (hT0 : T0 < T) (hl : g.ldr T0 ≠ none) (hi : 1 ≤ i) (ha : i ≤ g.ack j T0) (ht : tmL (g.gl T0) i = T0) : g.Has n C T0 i := by
 have hgl := (hg.ackle j T0 hj (by omega)).2.2;rcases hg.ackAll hj hl hi ha ht with ⟨h1, h2⟩ | h1
 ·have h3 : tmL (g.fl j) i = T0 := (tmL_take h2 (Nat.le_refl _)).trans ht;have h4 := hg.grows (T := g.bt j) (fun i a b => hg.fline j hj i a b) hi h1 (Nat.le_refl _);rw [h3] at h4;obtain ⟨c, hc⟩ : ∃ c, g.ldr T0 = some c := by
   cases h9 : g.ldr T0 with
   | none => exact absurd h9 hl
   | some c => exact ⟨c, rfl⟩
  have hT1 := (hg.ldrBt T0 c hc).2.1;simp only [asNew, Bool.or_eq_true, Bool.and_eq_true, decide_eq_true_eq] at han;have hC1 : 1 ≤ C.length := by
   by_cases e : C.length = 0
   ·rw [e] at han;have e9 : tmL C 0 = 0 := rfl;rw [e9] at han;omega
   ·omega
  have h5 := hg.cline f T hf C.length hC1 (by rw [hC]; exact Nat.le_refl _);rw [hC] at h5;obtain ⟨a1, a2, a3, a4, a5⟩ := h5;by_cases e : tmL C C.length = T0
  ·rw [e] at a5;refine .inl ⟨by omega, take_le a5 (by omega)⟩
  ·have hlt : T0 < tmL C C.length := by omega
   rcases hg.elect _ T0 i a3 hl hlt hi (Nat.le_trans ha hgl) ht with ⟨h6, h7⟩ | h6
   ·have hiC : i ≤ C.length := by
     by_cases h9 : i ≤ C.length
     ·exact h9
     ·exfalso;have h8 : tmL (g.gl (tmL C C.length)) C.length = tmL C C.length := (tmL_take a5 (Nat.le_refl _)).symm;have h10 : tmL (g.gl (tmL C C.length)) C.length = tmL (g.gl T0) C.length := tmL_take h7 (by omega);have h11 := (hg.gline T0 hl C.length hC1 (by omega)).2.1;omega
    exact .inl ⟨hiC, (take_le a5 hiC).trans h7⟩
   ·exact .inr h6
 ·exact .inr h1
theorem RI.asked {d : Nat} (hg : g.Ok n) (h : RI g n j R) (hl : Lt g n f j x) (hfj : f ≠ j) (hk : x.k = 1) (hup : x.t ≤ R.bt) : Acted d g n j R (R.asked f x) := by
 have hf := hl.jn;have hjn := h.jn;have hbt := h.bt;have hok := h.ok;obtain ⟨k1, k2, k3⟩ := hl.k1 hk;obtain ⟨b, hb, hln⟩ := h.ln;have hlast : R.line.last = (g.fl j).length := by rw [hln]; exact lineOf_last hb
 have hgd := hok.line;have htm : (tmIs R.line R.line.last).1 = tmL (g.fl j) (g.fl j).length := by
  rw [hlast, hln];rw [hln] at hgd;rw [lineOf_tmIs hgd hb, if_pos ⟨hb, Nat.le_refl _⟩]
 obtain ⟨an, han⟩ : ∃ an, asNew x.a x.u R.line.last (tmIs R.line R.line.last).1 = an := ⟨_, rfl⟩
 cases hyes : granted R.bt R.bf f x.t an with
 | false =>
  have e1 : grantT R.bt R.bf f x.t an = R.bt := by unfold grantT; rw [hyes]; rfl
  have e2 : grantF R.bt R.bf f x.t an = R.bf := by unfold grantF; rw [hyes]; rfl
  have hre : R.asked f x = R.post f ⟨2, 0, 0, 0, 0, false, [], []⟩ := by
   unfold PRaft.asked;simp only;rw [han, hyes, e1, e2, if_neg (by simp), if_neg (by simp)]
  rw [hre];exact h.posted hg (h.no hf hfj (.inl rfl) (by simp) (by simp) (fun _ => ⟨rfl, rfl⟩))
 | true =>
  have e0 : x.t = R.bt := granted_t hyes;have e1 : grantT R.bt R.bf f x.t an = R.bt := by rw [grantT_eq]
  have e2 : grantF R.bt R.bf f x.t an = f := by unfold grantF; rw [hyes]; rfl
  have han2 : an = true ∧ (R.bf = f ∨ R.bf = -1) := by
   simp [granted] at hyes;exact ⟨hyes.1.1.2, hyes.2⟩
  have hre : R.asked f x = (if ¬ (f : Int) = R.bf then ({ R with ticks := 0, bt := R.bt, bf := (f : Int) } : PRaft).noteBallot else { R with ticks := 0 }).post f ⟨2, 0, 0, 0, 0, true, [], []⟩ := by
   unfold PRaft.asked;simp only;rw [han, hyes, e1, e2];simp only [if_true, ne_eq, not_true_eq_false, false_or]
  rw [hre];have hans : ∀ {g1 : Gh} {R1 : PRaft}, g1.Ok n → RI g1 n j R1 → R1.bt = R.bt → g1.vote j R.bt = some f → Acted 0 g1 n j R1 (R1.post f ⟨2, 0, 0, 0, 0, true, [], []⟩) := fun hg1 h1 hb1 hv => by
   have hbt1 := h1.bt;refine h1.posted hg1 ⟨right_of (by simp) ⟨h1.ok.bt0, h1.ok.bt1⟩ (by simp) (by simp) (by simp) (by simp) (by simp) (by simp) rfl, by omega, by omega, by omega, hjn, by show _ ≤ _; exact Int.le_of_eq hbt1, fun e => by simp at e, fun _ _ => ?_, fun e => by simp at e, fun e => by simp at e, fun e => by simp at e⟩;show _ = some ((f : Int)).toNat;rw [show ((f : Int)).toNat = f by omega, ← hv, ← hb1]
  by_cases hbf : (f : Int) = R.bf
  ·rw [if_neg (by simpa using hbf)];refine Acted.more (R' := { R with ticks := 0 }) (d1 := 0) (.still hg (h.ticked (by omega) (by omega)) rfl) (fun g1 s1 hg1 h1 => hans hg1 h1 rfl ?_) (Nat.zero_le _);rcases h1.vote with ⟨h2, -⟩ | ⟨c, h2, h3⟩
   ·have h2 : R.bf = -1 := h2;omega
   ·have h2 : R.bf = c := h2;have : c = f := by omega
    subst this; exact h3
  ·have hbf1 : R.bf = -1 := by
    rcases han2.2 with h9 | h9
    ·exact absurd h9.symm hbf
    ·exact h9
   rw [if_pos hbf];have hv : g.vote j (g.bt j) = none := by
    rw [← hbt];rcases h.vote with ⟨-, h2⟩ | ⟨c, h2, h3⟩
    ·exact h2
    ·omega
   have hs := Gh.cast_step (n := n) hv f;have hx := hs.ext;have hk9 := Gh.cast_ok hg (c := f) hv hf (by omega) (by have := hl.t; omega) (fun T0 i c1 c2 c3 c4 c5 => by
    rw [← hbt, ← e0] at c1 ⊢;refine hg.newer hjn hf rfl ?_ c1 c2 c3 c4 c5;rw [← k2, ← k3, ← hlast, ← htm, han];exact han2.1)
   have e6 : (g.cast j f).vote j R.bt = some f := by rw [hbt]; exact setNT_same _ _ _ _
   have hwho : (f : Int) ≤ 6 := by have h1 := hok.n7; have h2 := h.nn; omega
   have hokB : ({ R with ticks := 0, bt := R.bt, bf := (f : Int) } : PRaft).Ok := (hok.tick0 (k := 0) (by omega) (by omega)).ballot (t := R.bt) (f := (f : Int)) (Int.le_refl _) hok.bt1 (by omega) hwho;refine Acted.more (R' := ({ R with ticks := 0, bt := R.bt, bf := (f : Int) } : PRaft).noteBallot) (d1 := 0) ⟨g.cast j f, hs, hk9, ⟨ok_noteBallot hokB, h.me, h.nn, hbt, h.ln, .inr ⟨f, rfl, e6⟩, fun hr => ?_, fun hr => ?_, hx.com h.com (Int.le_refl _) h.com.1 rfl, h.st⟩, fun y hy => .inl hy, Nat.le_refl _⟩ (fun g1 s1 hg1 h1 => hans hg1 h1 rfl ?_) (Nat.zero_le _)
   ·have hr : R.role = 1 := hr;obtain ⟨c1, c2, c3⟩ := h.cand hr;exact ⟨c1, c2, fun k hk => ⟨(c3 k hk).1, hx.vote k _ _ (c3 k hk).1 (c3 k hk).2⟩⟩
   ·exact h.lead hr
   ·rcases h1.vote with ⟨h2, -⟩ | ⟨c, h2, h3⟩
    ·have h2 : (f : Int) = -1 := h2;omega
    ·have h2 : (f : Int) = c := h2;have : c = f := by omega
     subst this; exact h3
theorem RI.said (hg : g.Ok n) (h : RI g n j R) (hl : Lt g n f j x) (hk : x.k = 2) : Acted 1 g n j R (R.said f x) := by
 unfold PRaft.said;split
 ·rename_i h1
  obtain ⟨h2, h3, h4⟩ := h1;refine h.count hg h2 hl.jn ?_;have h5 := hl.k2 hk h4;rw [h3, show ((j : Int)).toNat = j by omega] at h5;exact h5
 ·exact .still hg h rfl
end
end Go.Proofs.YtogcnfhmcpkdcaaGreat
namespace Go.Proofs.YtogcnfhmcpkdcaaGreat
open Go.RowKit
set_option linter.unusedVariables false
set_option linter.unusedSimpArgs false
section
variable {n j f : Nat} {g g' : Gh} {R R' : PRaft} {x : PLet}
theorem RI.yes (h : RI g n j R) (hf : f < n) (hfj : f ≠ j) {a : Nat} {o : Int} (ha : (a : Int) ≤ 1099511627776) (ho : 0 ≤ o ∧ o ≤ 1099511627776) (hk : a ≤ g.ack j R.bt) : Lt g n j f { (⟨4, 0, (a : Int), 0, o, true, [], []⟩ : PLet) with t := R.bt } := by
 have hbt := h.bt;exact ⟨right_of (by simp) ⟨h.ok.bt0, h.ok.bt1⟩ ⟨by show (0 : Int) ≤ (a : Int); omega, ha⟩ (by simp) ho (by simp) (by simp) (by simp) rfl, by omega, by omega, by omega, h.jn, by show R.bt ≤ _; omega, fun e => by simp at e, fun e => by simp at e, fun e => by simp at e, fun _ _ => ⟨a, rfl, hk⟩, fun e => by simp at e⟩
theorem RI.follower (h : RI g n j R) (hok : ({ R with role := 0, lead := (f : Int), ticks := 0 } : PRaft).Ok) : RI g n j { R with role := 0, lead := (f : Int), ticks := 0 } := by
 refine ⟨hok, h.me, h.nn, h.bt, h.ln, h.vote, fun hr => ?_, fun hr => ?_, h.com, h.st⟩
 ·have hr : (0 : Int) = 1 := hr;omega
 ·have hr : (0 : Int) = 2 := hr;omega
theorem Acted.go {R'' : PRaft} {d : Nat} (s : g.Step g' n j) (hc : g'.cnt = g.cnt) (ho : R'.out = R.out) (h : Acted d g' n j R' R'') : Acted d g n j R R'' := by
 obtain ⟨g2, k1, k2, k3, k4, k5⟩ := h;exact ⟨g2, s.trans k1, k2, k3, fun y hy => (k4 y hy).imp (fun h => by rw [← ho]; exact h) id, by omega⟩
theorem RI.followed (hg : g.Ok n) (h : RI g n j R) (hr0 : R.role = 0) {F : List PItem} {m b : Nat} {cm ap : Int} {st : List UInt8} {jp : Bool} {nw : List (List UInt8)} (hl : g.ldr R.bt ≠ none) (hm : m ≤ (g.gl R.bt).length)
  (hF : (F = g.fl j ∧ (g.fl j).take m = (g.gl R.bt).take m ∧ m ≤ (g.fl j).length) ∨ (F = (g.gl R.bt).take m ∧ ∃ d, 1 ≤ d ∧ d ≤ m ∧ ¬ (d ≤ (g.fl j).length ∧ (g.fl j).take d = (g.gl R.bt).take d)))
  (hb : b ≤ F.length) (hok : ({ R with line := lineOf F b, commit := cm, applied := ap, state := st, jumped := jp, news := nw } : PRaft).Ok) (hcom : g.Com n R.bt F cm.toNat) (hst : 1 ≤ b → st = stOf b) (hap : ap ≤ g.sn) (hjp : jp = true → st = stOf ap.toNat) :
  ∃ g', g.Step g' n j ∧ g'.Ok n ∧ RI g' n j { R with line := lineOf F b, commit := cm, applied := ap, state := st, jumped := jp, news := nw } ∧ m ≤ g'.ack j R.bt ∧ g'.cnt = g.cnt := by
 have hbt := h.bt;rw [hbt] at hl hm hF;have hs : g.Step (g.follow j F m) n j := Gh.follow_step F m;have hk := Gh.follow_ok hg h.jn hl hm hF;have e1 : (g.follow j F m).fl j = F := setN_same _ _ _;have e2 : (g.follow j F m).ack j R.bt = max (g.ack j (g.bt j)) m := by rw [hbt]; exact setNT_same _ _ _ _
 refine ⟨_, hs, hk, ⟨hok, h.me, h.nn, hbt, ⟨b, by rw [e1]; exact hb, by rw [e1]⟩, h.vote, fun hr => ?_, fun hr => ?_, ?_, ⟨fun hb9 => ?_, hap, hjp⟩⟩, by rw [e2]; omega, rfl⟩
 ·have hr : R.role = 1 := hr;omega
 ·have hr : R.role = 2 := hr;omega
 ·rw [e1];exact hs.ext.com hcom (Int.le_refl _) hcom.1 rfl
 ·have hb9 : (1 : Int) ≤ (b : Int) := hb9;show st = stOf ((b : Int)).toNat;rw [hst (by omega)]
  congr 1
theorem RI.sent1 {d : Nat} (hg : g.Ok n) (h : RI g n j R) (hr0 : R.role = 0) (hl : Lt g n f j x) (hfj : f ≠ j) (hk : x.k = 3) (hT : x.t = R.bt) (hok : (R.sent1 f x).Ok) : Acted d g n j R (R.sent1 f x) := by
 obtain ⟨l1, a, o, l2, l3, l4, l5, l6, l7⟩ := hl.k3 hk;rw [hT] at l1 l4 l5 l6 l7;have hln0 := some_ne l1;have hf := hl.jn;have hbt := h.bt;have hgd := h.ok.line;have hcm0 := h.ok.ap0; have hcm1 := h.ok.ap1; have hcm2 := h.ok.cm; have hb00 := hgd.b0;obtain ⟨b, hb, hln⟩ := h.ln;have hbase : R.line.base = b := by rw [hln]; rfl
 have hlast : R.line.last = (g.fl j).length := by rw [hln]; exact lineOf_last hb
 have hgd9 := hgd;rw [hln] at hgd9;obtain ⟨-, hxt, hxa, hxu, hxo, hxi, -⟩ := right_places hl.right;obtain ⟨ca1, ca2⟩ := h.com.agree hg hln0;obtain ⟨cm, hcm⟩ : ∃ cm : Nat, R.commit = cm := ⟨R.commit.toNat, by omega⟩
 have hcmn : R.commit.toNat = cm := by omega
 rw [hcmn] at ca1 ca2;have hsame : ∀ i, 1 ≤ i → i ≤ (g.fl j).length → i ≤ (g.gl R.bt).length → tmL (g.fl j) i = tmL (g.gl R.bt) i → (g.fl j).take i = (g.gl R.bt).take i := fun i h1 h2 h3 h4 =>
  Gh.same (hg.fline j h.jn i h1 h2) (hg.gline _ hln0 i h1 h3) h4
 obtain ⟨len, hlen⟩ : ∃ len, x.its.length = len := ⟨_, rfl⟩
 rw [hlen] at l4 l6;have hjoin := lineOf_join (G := g.gl R.bt) hgd9 hb hlen l4 l6 ⟨take_le ca2 (by omega), by omega⟩ hsame;rw [← l5, ← l2, ← hln] at hjoin;unfold PRaft.sent1 at hok ⊢;simp only at hok ⊢;have hcomit : ∀ {F : List PItem}, cm ≤ F.length → F.take cm = (g.fl j).take cm → a + len ≤ F.length → F.take (a + len) = (g.gl R.bt).take (a + len) → g.Com n R.bt F (max R.commit (min x.o (x.a + x.its.length))).toNat := fun {F} h1 h2 h3 h4 => by
  obtain ⟨M, hM⟩ : ∃ M : Nat, M = min o (a + len) := ⟨_, rfl⟩
  have e : (max R.commit (min x.o (x.a + x.its.length))).toNat = max cm M := by omega
  rw [e];by_cases h5 : M ≤ cm
  ·rw [Nat.max_eq_left h5];have h6 := h.com;rw [hcmn] at h6;exact (Gh.Ext.refl g n).com h6 (Int.le_refl _) h1 h2
  ·rw [Nat.max_eq_right (by omega)];exact l7.com hg hln0 (by omega) (take_le h4 (by omega)) (by omega)
 rcases hjoin with e | ⟨e, h1, h2⟩ | ⟨J, e, h1, h2, h3, h4, h5, h6, h7⟩
 ·rw [e] at hok ⊢;simp only at hok ⊢;rw [if_neg (by simp)];simp only [if_true];exact h.posted hg (h.no hf hfj (.inr rfl) ⟨by omega, by omega⟩ ⟨hxa.1, hxa.2⟩ (fun e => by omega))
 ·rw [e] at hok ⊢;simp only at hok ⊢;rw [if_neg (by simp), if_neg (by simp), if_neg (by simp)] at hok ⊢;have hok2 := hok.out R.out;have hrec : (({ R with commit := max R.commit (min x.o (x.a + x.its.length)) } : PRaft)) = { R with line := lineOf (g.fl j) b, commit := max R.commit (min x.o (x.a + x.its.length)), applied := R.applied, state := R.state, jumped := R.jumped, news := R.news } := by rw [← hln]
  have hok3 : ({ R with line := lineOf (g.fl j) b, commit := max R.commit (min x.o (x.a + x.its.length)), applied := R.applied, state := R.state, jumped := R.jumped, news := R.news } : PRaft).Ok := by rw [← hrec]; exact hok2
  obtain ⟨g1, s1, o1, r1, k1, k0⟩ := h.followed hg hr0 (F := g.fl j) (m := a + len) hln0 l4 (.inl ⟨rfl, h2, h1⟩) hb hok3 (hcomit (by omega) rfl h1 h2) (fun hb1 => by have h9 := h.st.1 (by omega); rw [h9, hbase]; congr 1) h.st.2.1 h.st.2.2;rw [← hrec] at r1;refine Acted.go (R' := ({ R with commit := max R.commit (min x.o (x.a + x.its.length)) } : PRaft)) s1 k0 rfl (r1.posted o1 ?_);have hlb := last_bounds hgd;have hy := r1.yes (o := x.a) hf hfj (a := a + len) (by omega) ⟨hxa.1, hxa.2⟩ k1;have e9 : x.a + (x.its.length : Int) = ((a + len : Nat) : Int) := by omega
  rw [e9];exact hy
 ·rw [e] at hok ⊢;simp only at hok ⊢;by_cases hJ : 0 < (J : Int) ∧ (J : Int) ≤ R.commit
  ·rw [if_pos ⟨trivial, hJ⟩] at hok ⊢;exact .still hg h rfl
  ·rw [if_neg (fun h9 => hJ h9.2), if_neg (by simp), if_pos (by omega)] at hok ⊢;have hJc : cm < J := by omega
   have hFl : (((g.gl R.bt).take (a + len))).length = a + len := by rw [List.length_take]; omega
   obtain ⟨nw, hnw⟩ : ∃ nw, nw = (({ R with line := lineOf ((g.gl R.bt).take (a + len)) b } : PRaft).noteItems J).news := ⟨_, rfl⟩
   have hrec : ({ ({ R with line := lineOf ((g.gl R.bt).take (a + len)) b } : PRaft).noteItems J with commit := max R.commit (min x.o (x.a + x.its.length)) } : PRaft) = { R with line := lineOf ((g.gl R.bt).take (a + len)) b, commit := max R.commit (min x.o (x.a + x.its.length)), applied := R.applied, state := R.state, jumped := R.jumped, news := nw } := by rw [hnw]; rfl
   have hok2 := hok.out R.out;have hok3 : ({ R with line := lineOf ((g.gl R.bt).take (a + len)) b, commit := max R.commit (min x.o (x.a + x.its.length)), applied := R.applied, state := R.state, jumped := R.jumped, news := nw } : PRaft).Ok := by rw [← hrec]; exact hok2
   obtain ⟨g1, s1, o1, r1, k1, k0⟩ := h.followed hg hr0 (F := (g.gl R.bt).take (a + len)) (m := a + len) hln0 l4 (.inr ⟨rfl, J, h2, h3, h5⟩) (by omega) hok3 (hcomit (by omega) (by rw [List.take_take, Nat.min_eq_left (by omega)]; exact (take_le h6 (by omega)).symm) (by omega) (by rw [List.take_take, Nat.min_self])) (fun hb1 => by have h9 := h.st.1 (by omega); rw [h9, hbase]; congr 1) h.st.2.1 h.st.2.2;rw [← hrec] at r1;refine Acted.go (R' := ({ ({ R with line := lineOf ((g.gl R.bt).take (a + len)) b } : PRaft).noteItems J with commit := max R.commit (min x.o (x.a + x.its.length)) } : PRaft)) s1 k0 rfl (r1.posted o1 ?_);have hlb := last_bounds hok3.line;rw [show ({ R with line := lineOf ((g.gl R.bt).take (a + len)) b, commit := max R.commit (min x.o (x.a + x.its.length)), applied := R.applied, state := R.state, jumped := R.jumped, news := nw } : PRaft).line = lineOf ((g.gl R.bt).take (a + len)) b from rfl, lineOf_last (by omega), hFl] at hlb;have hy := r1.yes (o := x.a) hf hfj (a := a + len) (by omega) ⟨hxa.1, hxa.2⟩ k1;have e9 : x.a + (x.its.length : Int) = ((a + len : Nat) : Int) := by omega
   rw [e9];exact hy
end
end Go.Proofs.YtogcnfhmcpkdcaaGreat
namespace Go.Proofs.YtogcnfhmcpkdcaaGreat
open Go.RowKit
set_option linter.unusedVariables false
set_option linter.unusedSimpArgs false
section
variable {n j f : Nat} {g g' : Gh} {R R' : PRaft} {x : PLet}
theorem follows_is (R : PRaft) (f : Int) (x : PLet) : (x.t < R.bt ∧ R.follows f x = (R.post f ⟨4, 0, 0, 0, x.a, false, [], []⟩, false)) ∨ (¬ x.t < R.bt ∧ R.role = 2 ∧ R.follows f x = (R, false)) ∨ (¬ x.t < R.bt ∧ R.role ≠ 2 ∧ R.follows f x = ({ R with role := 0, lead := f, ticks := 0 }, true)) := by
 unfold PRaft.follows;by_cases h1 : x.t < R.bt
 ·exact .inl ⟨h1, by rw [if_pos h1]⟩
 ·by_cases h2 : R.role = 2
  ·exact .inr (.inl ⟨h1, h2, by rw [if_neg h1, if_pos h2]⟩)
  ·exact .inr (.inr ⟨h1, h2, by rw [if_neg h1, if_neg h2]⟩)
theorem RI.sent {d : Nat} (hg : g.Ok n) (h : RI g n j R) (hl : Lt g n f j x) (hfj : f ≠ j) (hk : x.k = 3) (hup : x.t ≤ R.bt) : Acted d g n j R (R.sent f x) := by
 have hok := ok_sent h.ok (f : Int) x;have hfo := ok_follows h.ok (f : Int) x;obtain ⟨-, hxt, hxa, -⟩ := right_places hl.right;unfold PRaft.sent at hok ⊢;rcases follows_is R f x with ⟨h1, e⟩ | ⟨h1, h2, e⟩ | ⟨h1, h2, e⟩
 ·rw [e] at hok ⊢;simp only [Bool.false_eq_true, if_false] at hok ⊢;exact h.posted hg (h.no hl.jn hfj (.inr rfl) (by simp) hxa (fun e => by omega))
 ·rw [e];simp only [Bool.false_eq_true, if_false];exact .still hg h rfl
 ·rw [e] at hok hfo ⊢;simp only [if_true] at hok ⊢;have r0 := h.follower (f := f) hfo;exact Acted.go (R' := { R with role := 0, lead := (f : Int), ticks := 0 }) (.refl g n j) rfl rfl (r0.sent1 hg rfl hl hfj hk (by show x.t = R.bt; omega) hok)
theorem RI.given1 {d : Nat} (hg : g.Ok n) (h : RI g n j R) (hr0 : R.role = 0) (hl : Lt g n f j x) (hfj : f ≠ j) (hk : x.k = 5) (hT : x.t = R.bt) (hok : (R.given1 f x).Ok) : Acted d g n j R (R.given1 f x) := by
 obtain ⟨l1, a, l2, l3, l4, l5, l6, l7, l8⟩ := hl.k5 hk;rw [hT] at l1 l4 l5 l6;have hln0 := some_ne l1;have hf := hl.jn;have hbt := h.bt;have hgd := h.ok.line;have hcm0 := h.ok.ap0; have hcm1 := h.ok.ap1; have hcm2 := h.ok.cm; have hb00 := hgd.b0;obtain ⟨b, hb, hln⟩ := h.ln;have hbase : R.line.base = b := by rw [hln]; rfl
 have hlast : R.line.last = (g.fl j).length := by rw [hln]; exact lineOf_last hb
 have hlb := last_bounds hgd;obtain ⟨-, hxt, hxa, hxu, hxo, hxi, -⟩ := right_places hl.right;obtain ⟨ca1, ca2⟩ := h.com.agree hg hln0;obtain ⟨cm, hcm⟩ : ∃ cm : Nat, R.commit = cm := ⟨R.commit.toNat, by omega⟩
 have hcmn : R.commit.toNat = cm := by omega
 rw [hcmn] at ca1 ca2;unfold PRaft.given1 at hok ⊢;split
 ·rename_i hle
  rw [if_pos hle] at hok;have hrec : R = { R with line := lineOf (g.fl j) b, commit := R.commit, applied := R.applied, state := R.state, jumped := R.jumped, news := R.news } := by rw [← hln]
  have hok3 : ({ R with line := lineOf (g.fl j) b, commit := R.commit, applied := R.applied, state := R.state, jumped := R.jumped, news := R.news } : PRaft).Ok := by rw [← hrec]; exact h.ok
  obtain ⟨g1, s1, o1, r1, k1, k0⟩ := h.followed hg hr0 (F := g.fl j) (m := cm) hln0 ca1 (.inl ⟨rfl, ca2, by omega⟩) hb hok3 h.com (fun hb1 => by have h9 := h.st.1 (by omega); rw [h9, hbase]; congr 1) h.st.2.1 h.st.2.2;rw [← hrec] at r1;refine Acted.go (R' := R) s1 k0 rfl (r1.posted o1 ?_);have hy := r1.yes (o := x.a) hf hfj (a := cm) (by omega) hxa k1;rw [hcm];exact hy
 ·rename_i hle
  rw [if_neg hle] at hok;have hgd9 := hgd;rw [hln] at hgd9;have htm := lineOf_tmIs hgd9 hb a;rw [← hln, ← l2] at htm;have hcase : ∃ F, R.giveLine x = lineOf F a ∧ a ≤ F.length ∧ F.take a = (g.gl R.bt).take a ∧ ((F = g.fl j ∧ (g.fl j).take a = (g.gl R.bt).take a ∧ a ≤ (g.fl j).length) ∨ (F = (g.gl R.bt).take a ∧ ∃ d, 1 ≤ d ∧ d ≤ a ∧ ¬ (d ≤ (g.fl j).length ∧ (g.fl j).take d = (g.gl R.bt).take d))) := by
   unfold PRaft.giveLine;by_cases hin : b ≤ a ∧ a ≤ (g.fl j).length
   ·rw [if_pos hin] at htm;by_cases hu : tmL (g.fl j) a = x.u
    ·rw [htm, if_pos ⟨rfl, hu⟩];have h8 : (g.fl j).take a = (g.gl R.bt).take a := Gh.same (hg.fline j h.jn a l3 hin.2) (hg.gline _ hln0 a l3 l4) (by rw [hu, l5]);refine ⟨g.fl j, ?_, hin.2, h8, .inl ⟨rfl, h8, hin.2⟩⟩;rw [hln, l2, lineOf_drop hgd9 hb hin.1 hin.2]
    ·rw [htm, if_neg (fun h9 => hu h9.2)];refine ⟨(g.gl R.bt).take a, ?_, by rw [List.length_take]; omega, by rw [List.take_take, Nat.min_self], .inr ⟨rfl, a, l3, Nat.le_refl _, fun h9 => hu ?_⟩⟩
     ·unfold lineOf;rw [tmL_take' (Nat.le_refl _), ← l5, l2, List.drop_of_length_le (by rw [List.length_take]; omega)]
     ·rw [l5]; exact tmL_take h9.2 (Nat.le_refl _)
   ·rw [if_neg hin] at htm;rw [htm, if_neg (fun h9 => by cases h9.1)];refine ⟨(g.gl R.bt).take a, ?_, by rw [List.length_take]; omega, by rw [List.take_take, Nat.min_self], .inr ⟨rfl, a, l3, Nat.le_refl _, fun h9 => hin ⟨by omega, h9.1⟩⟩⟩;unfold lineOf;rw [tmL_take' (Nat.le_refl _), ← l5, l2, List.drop_of_length_le (by rw [List.length_take]; omega)]
  obtain ⟨F, f1, f2, f3, f4⟩ := hcase;rw [f1] at hok ⊢;have hok3 : ({ R with line := lineOf F a, commit := x.a, applied := x.a, state := x.b, jumped := true, news := R.news } : PRaft).Ok := hok.out R.out;have hco : g.Com n R.bt F x.a.toNat := by
   rw [l2, show ((a : Int)).toNat = a by omega];exact l6.com hg hln0 f2 f3 (Nat.le_refl _)
  obtain ⟨g1, s1, o1, r1, k1, k0⟩ := h.followed hg hr0 (F := F) (m := a) hln0 l4 f4 f2 hok3 hco (fun _ => l7) (by omega) (fun _ => by rw [l7, l2]; congr 1);refine Acted.go (R' := { R with line := lineOf F a, commit := x.a, applied := x.a, state := x.b, jumped := true }) s1 k0 rfl (r1.posted o1 ?_);have hy := r1.yes (o := x.a) hf hfj (a := a) (by omega) hxa k1;rw [← l2] at hy;exact hy
theorem RI.given {d : Nat} (hg : g.Ok n) (h : RI g n j R) (hl : Lt g n f j x) (hfj : f ≠ j) (hk : x.k = 5) (hup : x.t ≤ R.bt) : Acted d g n j R (R.given f x) := by
 have hok := ok_given h.ok (f : Int) hl.right;have hfo := ok_follows h.ok (f : Int) x;obtain ⟨-, hxt, hxa, -⟩ := right_places hl.right;unfold PRaft.given at hok ⊢;rcases follows_is R f x with ⟨h1, e⟩ | ⟨h1, h2, e⟩ | ⟨h1, h2, e⟩
 ·rw [e] at hok ⊢;simp only [Bool.false_eq_true, if_false] at hok ⊢;exact h.posted hg (h.no hl.jn hfj (.inr rfl) (by simp) hxa (fun e => by omega))
 ·rw [e];simp only [Bool.false_eq_true, if_false];exact .still hg h rfl
 ·rw [e] at hok hfo ⊢;simp only [if_true] at hok ⊢;have r0 := h.follower (f := f) hfo;exact Acted.go (R' := { R with role := 0, lead := (f : Int), ticks := 0 }) (.refl g n j) rfl rfl (r0.given1 hg rfl hl hfj hk (by show x.t = R.bt; omega) hok)
theorem RI.got {d : Nat} (hg : g.Ok n) (h : RI g n j R) (hl : Lt g n f j x) (hfj : f ≠ j) (hk : x.k = 4) : Acted d g n j R (R.got f x) := by
 have hf := hl.jn;have hnn := h.nn;have hn7 := h.ok.n7;have hok := h.ok;obtain ⟨b, hb, hln⟩ := h.ln;have hlast : R.line.last = (g.fl j).length := by rw [hln]; exact lineOf_last hb
 obtain ⟨-, hxt, hxa, hxu, hxo, -⟩ := right_places hl.right;have hlb := last_bounds hok.line;have hm := getD_bound hok.mss (i := f) (by rw [hok.m7]; omega);have hx := getD_bound hok.xs (i := f) (by rw [hok.x7]; omega);have hft : ((f : Int)).toNat = f := by omega
 unfold PRaft.got;simp only [hft];split
 ·exact .still hg h rfl
 ·rename_i h1
  have hr : R.role = 2 := by
   by_cases e : R.role = 2
   ·exact e
   ·exact absurd (.inl e) h1
  have hT : x.t = R.bt := by
   by_cases e : x.t = R.bt
   ·exact e
   ·exact absurd (.inr e) h1
  obtain ⟨l1, l2, l3, l4, l5⟩ := h.lead hr;have hackl : ∀ k : Nat, k < n → g.ack k R.bt ≤ (g.fl j).length := fun k hk9 => by
   rcases Nat.eq_zero_or_pos (g.ack k R.bt) with h9 | h9
   ·omega
   ·have h8 := (hg.ackle k R.bt hk9 h9).2.2;rw [l2] at h8; exact h8
  split
  ·rename_i h2
   obtain ⟨a, k1, k2⟩ := hl.k4 hk h2.1;rw [hT] at k2;have hok2 : ({ R with mat := R.mat.set f (max (R.mat.getD f 0) x.a), nxt := R.nxt.set f (max (R.nxt.getD f 0) (x.a + 1)) } : PRaft).Ok :=
    hok.matched (by simp [hok.m7]) (by simp [hok.x7]) (set_bound hok.mss (by omega)) (set_bound hok.xs (by omega))
   have r1 : RI g n j { R with mat := R.mat.set f (max (R.mat.getD f 0) x.a), nxt := R.nxt.set f (max (R.nxt.getD f 0) (x.a + 1)) } := by
    refine ⟨hok2, h.me, h.nn, h.bt, h.ln, h.vote, h.cand, fun _ => ⟨l1, l2, l3, fun k hk9 => ?_, fun k hk9 => ?_⟩, h.com, h.st⟩
    ·show (R.mat.set f (max (R.mat.getD f 0) x.a)).getD k 0 ≤ _;rw [getD_set _ _ _ _ (by rw [hok.m7]; omega)];have h9 := l4 k hk9;by_cases e : k = f
     ·subst e;rw [if_pos rfl];show max (R.mat.getD k 0) x.a ≤ (g.ack k R.bt : Int);omega
     ·rw [if_neg e]; exact h9
    ·show 1 ≤ (R.nxt.set f (max (R.nxt.getD f 0) (x.a + 1))).getD k 0 ∧ (R.nxt.set f (max (R.nxt.getD f 0) (x.a + 1))).getD k 0 ≤ _;rw [getD_set _ _ _ _ (by rw [hok.x7]; omega)];have h9 := l5 k hk9;by_cases e : k = f
     ·subst e;rw [if_pos rfl];have h8 := h2.2;omega
     ·rw [if_neg e]; exact h9
   obtain ⟨h3, h4⟩ := r1.look hg hr;have hr3 : (({ R with mat := R.mat.set f (max (R.mat.getD f 0) x.a), nxt := R.nxt.set f (max (R.nxt.getD f 0) (x.a + 1)) } : PRaft).look).role = 2 := by
    obtain ⟨m, c, he, -⟩ := look_eq ({ R with mat := R.mat.set f (max (R.mat.getD f 0) x.a), nxt := R.nxt.set f (max (R.nxt.getD f 0) (x.a + 1)) } : PRaft);rw [he]; exact hr
   split
   ·have hme3 := h3.me;obtain ⟨y, hy1, hy2⟩ := h3.send hg hr3 (({ R with mat := R.mat.set f (max (R.mat.getD f 0) x.a), nxt := R.nxt.set f (max (R.nxt.getD f 0) (x.a + 1)) } : PRaft).look).out (i := (f : Int)) (by omega) (by rw [h3.nn]; omega) (by rw [hme3]; omega);have hy1 : PRaft.send (({ R with mat := R.mat.set f (max (R.mat.getD f 0) x.a), nxt := R.nxt.set f (max (R.nxt.getD f 0) (x.a + 1)) } : PRaft).look) f = { (({ R with mat := R.mat.set f (max (R.mat.getD f 0) x.a), nxt := R.nxt.set f (max (R.nxt.getD f 0) (x.a + 1)) } : PRaft).look) with out := (({ R with mat := R.mat.set f (max (R.mat.getD f 0) x.a), nxt := R.nxt.set f (max (R.nxt.getD f 0) (x.a + 1)) } : PRaft).look).out ++ [y] } := hy1;rw [hy1];refine .posts hg (h3.outs _) fun z hz => ?_
    rcases List.mem_append.1 hz with h5 | h5
    ·exact .inl (by rw [h4] at h5; exact h5)
    ·rw [List.mem_singleton] at h5; subst h5; exact .inr hy2
   ·exact .still hg h3 h4
  ·split
   ·rename_i h2 h3
    have hok2 : ({ R with nxt := R.nxt.set f (max (R.mat.getD f 0 + 1) (min (x.a + 1) x.o)) } : PRaft).Ok :=
     hok.matched (m := R.mat) (x := R.nxt.set f (max (R.mat.getD f 0 + 1) (min (x.a + 1) x.o))) hok.m7 (by simp [hok.x7]) hok.mss (set_bound hok.xs (by omega))
    have r1 : RI g n j { R with nxt := R.nxt.set f (max (R.mat.getD f 0 + 1) (min (x.a + 1) x.o)) } := by
     refine ⟨hok2, h.me, h.nn, h.bt, h.ln, h.vote, h.cand, fun _ => ⟨l1, l2, l3, l4, fun k hk9 => ?_⟩, h.com, h.st⟩;show 1 ≤ (R.nxt.set f (max (R.mat.getD f 0 + 1) (min (x.a + 1) x.o))).getD k 0 ∧ (R.nxt.set f (max (R.mat.getD f 0 + 1) (min (x.a + 1) x.o))).getD k 0 ≤ _;rw [getD_set _ _ _ _ (by rw [hok.x7]; omega)];have h9 := l5 k hk9;by_cases e : k = f
     ·subst e;rw [if_pos rfl];have h8 := l4 k hk9;have h7 := hackl k hk9;have h6 := h3.2.1;omega
     ·rw [if_neg e]; exact h9
    obtain ⟨y, hy1, hy2⟩ := r1.send hg hr R.out (i := (f : Int)) (by omega) (by show (f : Int) < R.n; omega) (by show (f : Int) ≠ R.me; have := h.me; omega);have hy1 : PRaft.send ({ R with nxt := R.nxt.set f (max (R.mat.getD f 0 + 1) (min (x.a + 1) x.o)) } : PRaft) f = { R with nxt := R.nxt.set f (max (R.mat.getD f 0 + 1) (min (x.a + 1) x.o)), out := R.out ++ [y] } := hy1;rw [hy1];refine .posts hg (r1.outs _) fun z hz => ?_
    rcases List.mem_append.1 hz with h5 | h5
    ·exact .inl h5
    ·rw [List.mem_singleton] at h5; subst h5; exact .inr hy2
   ·exact .still hg h rfl
theorem RI.handle (hg : g.Ok n) (h : RI g n j R) (hl : Lt g n f j x) : Acted 1 g n j R (R.handle f x) := by
 have hfj : f ≠ j := by have := hl.wn; omega
 obtain ⟨⟨hk0, hk1⟩, hxt, -⟩ := right_places hl.right;unfold PRaft.handle;split
 ·exact .still hg h rfl
 ·obtain ⟨h1, h2⟩ := h.stepUp (d := 0) hg hxt.2;refine h1.more (d2 := 1) (fun g1 s1 o1 r1 => ?_) (Nat.le_refl _);have hl1 := hl.ext s1.ext;unfold PRaft.heard;split
  ·rename_i e; exact r1.asked o1 hl1 hfj e h2
  ·split
   ·rename_i e; exact r1.said o1 hl1 e
   ·split
    ·rename_i e; exact r1.sent o1 hl1 hfj e h2
    ·split
     ·rename_i e; exact r1.got o1 hl1 hfj e
     ·split
      ·rename_i e; exact r1.given o1 hl1 hfj e h2
      ·exact .still o1 r1 rfl
end
end Go.Proofs.YtogcnfhmcpkdcaaGreat
namespace Go.Proofs.YtogcnfhmcpkdcaaGreat
open Go.RowKit
set_option linter.unusedVariables false
set_option linter.unusedSimpArgs false
section
variable {R : PRaft}
theorem ap_send (R : PRaft) (i : Int) : (R.send i).applied = R.applied := by
 obtain ⟨y, h⟩ := send_eq R i; rw [h]
theorem ap_beat (R : PRaft) : (R.others PRaft.send).applied = R.applied := by
 obtain ⟨o, h, -⟩ := others_out (f := PRaft.send) send_eq R; rw [h]
theorem ap_look (R : PRaft) : R.look.applied = R.applied := by
 obtain ⟨m, c, h, -⟩ := look_eq R; rw [h]
theorem ap_goLead (R : PRaft) : R.goLead.applied = R.applied := by
 unfold PRaft.goLead;rw [ap_beat, ap_look];obtain ⟨l, n, h⟩ := lead1_eq R;rw [h]; rfl
theorem ap_count (R : PRaft) (f : Int) : (R.count f).applied = R.applied := by
 unfold PRaft.count;simp only;split
 ·rw [ap_goLead]
 ·rfl
theorem ap_stand (R : PRaft) : R.stand.applied = R.applied := by
 unfold PRaft.stand;split
 ·rfl
 ·obtain ⟨o, e⟩ := others_out' (fun S who => S.post who ⟨1, 0, R.line.last, (tmIs R.line R.line.last).1, 0, false, [], []⟩) (fun S i => ⟨_, rfl⟩) R.stand0;rw [e, ap_count]; rfl
theorem ap_tick (R : PRaft) : R.tick.applied = R.applied := by
 unfold PRaft.tick;simp only;split
 ·rw [ap_beat]
 ·split
  ·rw [ap_stand]
  ·rfl
theorem ap_propose (R : PRaft) (b : List UInt8) : (R.propose b).1.applied = R.applied := by
 unfold PRaft.propose;split
 ·rfl
 ·split
  ·rfl
  ·split
   ·rfl
   ·simp only;split
    ·rfl
    ·rw [ap_beat, ap_look]; rfl
theorem ap_handle (R : PRaft) (f : Int) (x : PLet) : (R.handle f x).jumped = true ∨ (R.handle f x).applied = R.applied := by
 unfold PRaft.handle;split
 ·exact .inr rfl
 ·have h0 : (R.stepUp x.t).applied = R.applied := by unfold PRaft.stepUp; split <;> rfl
  rw [← h0];generalize R.stepUp x.t = S;unfold PRaft.heard;split
  ·refine .inr ?_;unfold PRaft.asked;simp only;show (if _ then _ else _ : PRaft).applied = _;split
   ·show (if _ then _ else _ : PRaft).applied = _;split <;> rfl
   ·split <;> rfl
  ·split
   ·refine .inr ?_;unfold PRaft.said;split
    ·exact ap_count _ _
    ·rfl
   ·split
    ·refine .inr ?_;have h1 : (S.follows f x).1.applied = S.applied := by
      unfold PRaft.follows;split
      ·rfl
      ·split <;> rfl
     unfold PRaft.sent;split
     ·rw [← h1];generalize (S.follows f x).1 = Q;unfold PRaft.sent1;simp only;split
      ·rfl
      ·split
       ·rfl
       ·show (if _ then _ else _ : PRaft).applied = _;split <;> rfl
     ·exact h1
    ·split
     ·refine .inr ?_;unfold PRaft.got;split
      ·rfl
      ·split
       ·simp only;split
        ·rw [ap_send, ap_look]
        ·rw [ap_look]
       ·split
        ·rw [ap_send]
        ·rfl
     ·split
      ·have h1 : (S.follows f x).1.applied = S.applied := by
        unfold PRaft.follows;split
        ·rfl
        ·split <;> rfl
       unfold PRaft.given;split
       ·rw [← h1];generalize (S.follows f x).1 = Q;unfold PRaft.given1;split
        ·exact .inr rfl
        ·exact .inl rfl
       ·exact .inr h1
      ·exact .inr rfl
end
end Go.Proofs.YtogcnfhmcpkdcaaGreat
namespace Go.Proofs.YtogcnfhmcpkdcaaGreat
open Go.RowKit
set_option linter.unusedVariables false
set_option linter.unusedSimpArgs false
section
variable {n i j c : Nat} {g g' : Gh} {R R' : PRaft} {G : PGroup}
structure SI (g : Gh) (n c : Nat) (G : PGroup) : Prop where
 ok : g.Ok n
 cnt : g.cnt ≤ c
 sn : g.sn = G.seen.length
 n1 : 1 ≤ n
 n7 : n ≤ 7
 rsl : G.rs.length = n
 hdl : G.hd.length = n
 ntl : G.nt.length = n
 atl : G.ats.length = n
 right : G.right = true
 ri : ∀ (j : Nat) (R : PRaft), G.rs[j]? = some R → RI g n j R ∧ R.out = [] ∧ R.news = [] ∧ R.jumped = false ∧ R.commit = R.applied ∧ G.ats[j]? = some R.applied
 st : ∀ (j : Nat) (R : PRaft) (h : List UInt8) (ns : List (List UInt8)), G.rs[j]? = some R → G.hd[j]? = some h → G.nt[j]? = some ns → ((loadH (PRaft.new j n) h).bind fun S => S.loads ns) = some R.bare ∧ ns.length ≤ 4097 * c
 bag : ∀ y ∈ G.bag, ∃ (f : Nat) (x : PLet), y.1 = f ∧ y.2.2 = putL x ∧ Lt g n f y.2.1 x
 bagl : G.bag.length ≤ 2000
 seen : G.seen = [] ∨ ∃ T1 i1, g.Chosen n T1 i1 ∧ G.seen.length ≤ i1 ∧ G.seen = (g.gl T1).take G.seen.length
 wl : G.wh.length = G.seen.length
 wh : ∀ (k : Nat) (t : Int), G.wh[k]? = some t → ∃ T1 i1, T1 ≤ t ∧ g.Chosen n T1 i1 ∧ k + 1 ≤ i1
 led : ∀ x ∈ G.led, ∃ d : Nat, x.2 = d ∧ g.ldr x.1 = some d
 ll : G.led.length ≤ c
theorem RI.item (h : RI g n j R) {k : Nat} (h1 : R.line.base ≤ k) (h2 : k < (g.fl j).length) : R.item ((k + 1 : Nat) : Int) = (g.fl j).getD k (0, []) := by
 obtain ⟨b, hb, hln⟩ := h.ln;have hlast : R.line.last = (g.fl j).length := by rw [hln]; exact lineOf_last hb
 have hbase : R.line.base = b := by rw [hln]; rfl
 unfold PRaft.item;rw [if_pos ⟨by omega, by omega⟩, hln];show ((g.fl j).drop b).getD (((k + 1 : Nat) : Int) - (b : Int) - 1).toNat (0, []) = _;rw [List.getD_eq_getElem?_getD, List.getD_eq_getElem?_getD, List.getElem?_drop, show b + (((k + 1 : Nat) : Int) - (b : Int) - 1).toNat = k by omega]
theorem range_items (F : List PItem) (s : Nat) : ∀ d, s + d ≤ F.length → (List.range d).map (fun m => F.getD (s + m) (0, [])) = (F.drop s).take d := by
 intro d
 induction d with
 | zero => intro _; rfl
 | succ d ih =>
  intro hd;rw [List.range_succ, List.map_append, ih (by omega), List.take_add_one]
  congr 1
  rw [List.getElem?_drop, List.getElem?_eq_getElem (by omega)];show [F.getD (s + d) (0, [])] = _;rw [List.getD_eq_getElem?_getD, List.getElem?_eq_getElem (by omega)];rfl
theorem seen_com {s : List PItem} {F : List PItem} {T : Int} {C : Nat} (hg : g.Ok n) (hs : s = [] ∨ ∃ T1 i1, g.Chosen n T1 i1 ∧ s.length ≤ i1 ∧ s = (g.gl T1).take s.length) (hc : g.Com n T F C) {m : Nat} (h1 : m ≤ s.length) (h2 : m ≤ C) : s.take m = F.take m := by
 rcases hs with hs | ⟨T1, i1, a1, a2, a3⟩
 ·subst hs;have : m = 0 := by simpa using h1
  subst this; rfl
 ·rcases hc.2 with hc0 | ⟨T2, i2, b1, b2, b3, b4⟩
  ·have : m = 0 := by omega
   subst this; rfl
  ·have h3 := hg.chosen2 a1 b2 (m := m) (by omega) (by omega);have h4 : s.take m = (g.gl T1).take m := by
    rw [a3, List.take_take, Nat.min_eq_left h1]
   rw [h4, h3];exact (take_le b4 h2).symm
theorem get_take {l l' : List PItem} {k m : Nat} (h : l.take m = l'.take m) (hk : k < m) : l[k]? = l'[k]? := by
 rw [← List.getElem?_take_of_lt hk, h, List.getElem?_take_of_lt hk]
theorem mailAdd_mem {P : PMail → Prop} {i : Nat} : ∀ (out : List PPost) (bag : List PMail), (∀ y ∈ bag, P y) → (∀ y ∈ out, P ((i : Int), y.1, putL y.2)) → bag.length ≤ 2000 → (∀ y ∈ mailAdd i bag out, P y) ∧ (mailAdd i bag out).length ≤ 2000
 | [], bag, h1, _, h3 => ⟨h1, h3⟩
 | y :: l, bag, h1, h2, h3 => by
  unfold mailAdd;refine mailAdd_mem l _ ?_ (fun z hz => h2 z (List.mem_cons_of_mem _ hz)) ?_
  ·split
   ·intro z hz;rcases List.mem_append.1 hz with hz | hz
    ·exact h1 z hz
    ·rw [List.mem_singleton] at hz; subst hz; exact h2 y (by simp)
   ·exact h1
  ·split
   ·rw [List.length_append, List.length_singleton]; omega
   ·exact h3
theorem led1_is (G : PGroup) (t : Int) (i : Nat) : ∃ l, G.led1 t i = { G with led := l } ∧ l.length ≤ G.led.length + 1 ∧ ∀ x ∈ l, x ∈ G.led ∨ x = (t, (i : Int)) := by
 unfold PGroup.led1;split
 ·exact ⟨_, rfl, by simp, fun x hx => by simpa using hx⟩
 ·exact ⟨G.led, rfl, by omega, fun x hx => .inl hx⟩
theorem coll_eq (G : PGroup) (i : Nat) (R' : PRaft) (hi : i < G.rs.length) (hin : i < G.nt.length) : ∃ l tt, ({ G with rs := G.rs.set i R' } : PGroup).coll i R' =
  { rs := G.rs.set i { R' with jumped := false, news := [], out := [], applied := (R'.commit.toNat : Int) }, hd := if R'.jumped = true then G.hd.set i R'.head else G.hd, nt := G.nt.set i (if R'.jumped = true then [] else G.nt.getD i [] ++ R'.news), ats := (if R'.jumped = true then G.ats.set i (atOf R'.state) else G.ats).set i (R'.commit.toNat : Int), bag := mailAdd i G.bag R'.out, seen := G.seen ++ (List.range (R'.commit.toNat - G.seen.length)).map (fun (m : Nat) => R'.item ((G.seen.length + m + 1 : Nat) : Int)), wh := G.wh ++ List.replicate (R'.commit.toNat - G.seen.length) tt, led := l, right := G.right } ∧ l.length ≤ G.led.length + 1 ∧ (∀ x ∈ l, x ∈ G.led ∨ (x = (R'.bt, (i : Int)) ∧ R'.role = 2)) ∧ R'.bt ≤ tt := by
 obtain ⟨R1, hR1⟩ : ∃ R1 : PRaft, R1 = { R'.jump.1 with news := [], out := [] } := ⟨_, rfl⟩
 have hR1e : R1 = { R' with jumped := false, news := [], out := [] } := by rw [hR1, jump_eq]
 obtain ⟨G2, hG2⟩ : ∃ G2 : PGroup, G2 = { ((({ G with rs := G.rs.set i R' } : PGroup).jumpd i R').noted i R'.jump.1) with bag := mailAdd i ((({ G with rs := G.rs.set i R' } : PGroup).jumpd i R').noted i R'.jump.1).bag R'.out, rs := ((({ G with rs := G.rs.set i R' } : PGroup).jumpd i R').noted i R'.jump.1).rs.set i R1 } := ⟨_, rfl⟩
 have hG2e : G2 = { rs := G.rs.set i R1, hd := if R'.jumped = true then G.hd.set i R'.head else G.hd, nt := G.nt.set i (if R'.jumped = true then [] else G.nt.getD i [] ++ R'.news), ats := if R'.jumped = true then G.ats.set i (atOf R'.state) else G.ats, bag := mailAdd i G.bag R'.out, seen := G.seen, wh := G.wh, led := G.led, right := G.right } := by
  rw [hG2, jump_eq];unfold PGroup.jumpd PGroup.noted;cases hj : R'.jumped with
  | true =>
   simp only [if_true, List.set_set]
   congr 1
   congr 1
   rw [List.getD_eq_getElem?_getD, List.getElem?_set, if_pos rfl, if_pos hin]
   simp
  | false => simp only [Bool.false_eq_true, if_false, List.set_set]
 have htt : R'.bt ≤ G2.term := by
  have h1 : R1 ∈ G2.rs := by
   rw [hG2e];exact List.mem_of_getElem? (i := i) (by show (G.rs.set i R1)[i]? = _; rw [List.getElem?_set, if_pos rfl, if_pos hi])
  have h2 := maxBt_mem (t := 0) h1;rw [hR1e] at h2;exact h2
 obtain ⟨G3, hG3⟩ : ∃ G3 : PGroup, G3 = G2.seenTo i R1 R'.commit.toNat := ⟨_, rfl⟩
 have hG3e : G3 = { rs := G.rs.set i { R' with jumped := false, news := [], out := [], applied := (R'.commit.toNat : Int) }, hd := if R'.jumped = true then G.hd.set i R'.head else G.hd, nt := G.nt.set i (if R'.jumped = true then [] else G.nt.getD i [] ++ R'.news), ats := (if R'.jumped = true then G.ats.set i (atOf R'.state) else G.ats).set i (R'.commit.toNat : Int), bag := mailAdd i G.bag R'.out, seen := G.seen ++ (List.range (R'.commit.toNat - G.seen.length)).map (fun (m : Nat) => R'.item ((G.seen.length + m + 1 : Nat) : Int)), wh := G.wh ++ List.replicate (R'.commit.toNat - G.seen.length) G2.term, led := G.led, right := G.right } := by
  rw [hG3];unfold PGroup.seenTo;have e1 : ∀ k, R1.item k = R'.item k := fun k => by rw [hR1e]; rfl
  have e2 : G2.seen = G.seen := by rw [hG2e]
  have e3 : G2.wh = G.wh := by rw [hG2e]
  rw [e2, e3];simp only [e1];generalize G2.term = tt;rw [hG2e, hR1e];simp only [List.set_set]
 have hcoll : ({ G with rs := G.rs.set i R' } : PGroup).coll i R' = if R'.role = 2 then G3.led1 R'.bt i else G3 := by
  unfold PGroup.coll;simp only;rw [← hR1, ← hG2, ← hG3]
 rw [hcoll];by_cases hr : R'.role = 2
 ·rw [if_pos hr];obtain ⟨l, h1, h2, h3⟩ := led1_is G3 R'.bt i;have e : G3.led = G.led := by rw [hG3e]
  rw [e] at h2 h3;refine ⟨l, G2.term, ?_, h2, fun x hx => (h3 x hx).imp id fun h => ⟨h, hr⟩, htt⟩;rw [h1, hG3e]
 ·rw [if_neg hr];exact ⟨G.led, G2.term, hG3e, by omega, fun x hx => .inl hx, htt⟩
end
end Go.Proofs.YtogcnfhmcpkdcaaGreat
namespace Go.Proofs.YtogcnfhmcpkdcaaGreat
open Go.RowKit
set_option linter.unusedVariables false
set_option linter.unusedSimpArgs false
section
variable {n i j c : Nat} {g g' : Gh} {R R' : PRaft} {G : PGroup}
theorem keep_self9 {R : PRaft} (h : R.Ok) (hs : (putItems R.line.l).length ≤ 800000) : loadH (PRaft.new R.me R.n) R.head = some R.bare := by
 unfold loadH;rw [if_neg (head_ne R), head_reads (B := 800000) ⟨h.bt0, h.bt1, h.bf0, h.bf1, h.line, h.st, hs⟩ (by omega)];rfl
theorem putItems_short {l : List PItem} (h : ∀ it ∈ l, rightI it = true ∧ it.2.length ≤ 50) : (putItems l).length ≤ 68 * l.length := by
 induction l with
 | nil => simp [putItems]
 | cons it l ih =>
  have h1 := ih (fun x hx => h x (List.mem_cons_of_mem _ hx));have h2 := h it (by simp);have h3 := putItem_len h2.1;have h4 : putItems (it :: l) = putItems [it] ++ putItems l := by rw [← putItems_append]; rfl
  rw [h4, List.length_append, List.length_cons];omega
theorem RI.sizes (hg : g.Ok n) (h : RI g n j R) (hc : g.cnt ≤ 4000) : (putItems R.line.l).length ≤ 800000 ∧ R.line.put.length ≤ 900000 ∧ R.state.length ≤ 70000 ∧ R.line.last ≤ 4000 := by
 obtain ⟨b, hb, hln⟩ := h.ln;obtain ⟨f1, f2⟩ := hg.fb j h.jn;have hok := h.ok;have hlast : R.line.last = (g.fl j).length := by rw [hln]; exact lineOf_last hb
 have hl : R.line.l = (g.fl j).drop b := by rw [hln]; rfl
 have h1 := putItems_short (l := R.line.l) (fun it hit => ⟨hok.line.its it hit, f2 it (by rw [hl] at hit; exact List.mem_of_mem_drop hit)⟩);have h2 : R.line.l.length ≤ (g.fl j).length := by rw [hl, List.length_drop]; omega
 have h3 : (putItems R.line.l).length ≤ 800000 := by omega
 have h4 : R.Fit 800000 := ⟨hok.bt0, hok.bt1, hok.bf0, hok.bf1, hok.line, hok.st, h3⟩
 have h5 := h4.put;have h6 := hok.st;exact ⟨h3, by omega, by omega, by omega⟩
def Gh.saw (g : Gh) (s : Nat) : Gh := { g with sn := s }
theorem Gh.saw_ext {s : Nat} (h : g.sn ≤ s) : g.Ext (g.saw s) n := ⟨fun _ _ h => h, fun _ _ => List.prefix_refl _, fun _ _ _ => Nat.le_refl _, fun _ _ _ _ => rfl, fun _ _ => Int.le_refl _, fun _ _ _ _ h => h, fun _ _ _ _ => rfl, h⟩
theorem Gh.saw_ok {s : Nat} (h : g.Ok n) : (g.saw s).Ok n := ⟨h.gline, h.fline, h.cline, h.ackle, h.ackNow, h.ackOld, h.votes, h.voter, h.elect, h.ldrMaj, h.ldrBt, h.fb, h.gb⟩
theorem RI.saw {s : Nat} (h : RI g n j R) (hs : g.sn ≤ s) : RI (g.saw s) n j R := ⟨h.ok, h.me, h.nn, h.bt, h.ln, h.vote, h.cand, h.lead, h.com, h.st.mono hs⟩
theorem RI.rest (h : RI g n j R) (hs : R.commit ≤ g.sn) : RI g n j { R with jumped := false, news := [], out := [], applied := (R.commit.toNat : Int) } := by
 have h0 := h.ok.ap0; have h1 := h.ok.ap1; have h2 := h.ok.line.b0;have e : ((R.commit.toNat : Nat) : Int) = R.commit := by omega
 rw [e];have hok : ({ R with jumped := false, news := [], out := [], applied := R.commit } : PRaft).Ok := { h.ok with ap0 := by show R.line.base ≤ R.commit; omega, ap1 := Int.le_refl _ }
 exact ⟨hok, h.me, h.nn, h.bt, h.ln, h.vote, h.cand, h.lead, h.com, ⟨h.st.1, hs, fun e => by cases e⟩⟩
theorem atOf_st {a : Nat} (h : a < 65536) : atOf (stOf a) = a := by
 unfold atOf stOf;show (((UInt8.ofNat (a / 256)).toNat * 256 + (UInt8.ofNat a).toNat : Nat) : Int) = a;rw [UInt8.toNat_ofNat', UInt8.toNat_ofNat'];omega
theorem SI.acted (h : SI g n c G) (hc : c ≤ 2000) (hR : G.rs[i]? = some R) (ha : Acted 1 g n i R R') (ht : R'.jumped = true ∨ Tells R R') (hap : R'.jumped = true ∨ R'.applied = R.applied) (hnw : R'.news.length ≤ 4097) (hol : R'.out.length ≤ 1000) :
  Cw { G with rs := G.rs.set i R' } i n R' ∧ ∃ g', SI g' n (c + 1) (({ G with rs := G.rs.set i R' } : PGroup).coll i R') := by
 obtain ⟨g1, s1, o1, r1, l1, k1⟩ := ha;obtain ⟨ri, ro, rn, rj, rc, ra⟩ := h.ri i R hR;have hx := s1.ext;have hcnt := h.cnt;have hsn := h.sn;have hil : i < G.rs.length := (List.getElem?_eq_some_iff.1 hR).1;have hin : i < n := by rw [← h.rsl]; exact hil
 have hrsl := h.rsl; have hhdl := h.hdl; have hntl := h.ntl; have hatl := h.atl;obtain ⟨z1, z2, z3, z4⟩ := r1.sizes o1 (by omega);have hok := r1.ok;have ha0 := hok.ap0; have ha1 := hok.ap1; have ha2 := hok.cm; have hb0 := hok.line.b0;obtain ⟨C, hC⟩ : ∃ C : Nat, R'.commit = C := ⟨R'.commit.toNat, by omega⟩
 have hCn : R'.commit.toNat = C := by omega
 obtain ⟨b, hb, hln⟩ := r1.ln;have hlast : R'.line.last = (g1.fl i).length := by rw [hln]; exact lineOf_last hb
 have hcom := r1.com;rw [hCn] at hcom;have hout : ∀ y ∈ R'.out, Lt g1 n i y.1 y.2 := fun y hy => by
  rcases l1 y hy with h9 | h9
  ·rw [ro] at h9; cases h9
  ·exact h9
 have hseen1 : G.seen = [] ∨ ∃ T1 i1, g1.Chosen n T1 i1 ∧ G.seen.length ≤ i1 ∧ G.seen = (g1.gl T1).take G.seen.length := by
  rcases h.seen with h9 | ⟨T1, i1, a1, a2, a3⟩
  ·exact .inl h9
  ·refine .inr ⟨T1, i1, hx.chosen a1, a2, a3.trans (take_pre (hx.gl T1 a1.1) (by have := a1.2.2.1; omega)).symm⟩
 have hsn1 := s1.sn;have hap1 : R'.applied ≤ (G.seen.length : Int) := by
  have h9 := r1.st.2.1;omega
 have hx1 := r1.com;have hone : ∀ m, m ≤ G.seen.length → m ≤ C → G.seen.take m = (g1.fl i).take m := fun m h1 h2 => seen_com o1 hseen1 hcom h1 h2
 have hag : ∀ (k : Nat) (x : PItem), G.seen[k]? = some x → R'.applied ≤ k → (k : Int) < R'.commit → R'.item ((k + 1 : Nat) : Int) = x := fun k x hk h1 h2 => by
  have hks : k < G.seen.length := (List.getElem?_eq_some_iff.1 hk).1;have hkF : k < (g1.fl i).length := by omega
  rw [r1.item (by omega) hkF];have h3 := get_take (hone (k + 1) (by omega) (by omega)) (k := k) (by omega);rw [hk] at h3;rw [List.getD_eq_getElem?_getD, ← h3]; rfl
 have hlead : R'.role = 2 → ∀ (k : Nat) (x : PItem) (t : Int), G.seen[k]? = some x → G.wh[k]? = some t → t < R'.bt → R'.line.base < (k : Int) + 1 → (k : Int) + 1 ≤ R'.line.last ∧ R'.item ((k : Int) + 1) = x := fun hr k x t hk ht htb hbk => by
  obtain ⟨q1, q2, -⟩ := r1.lead hr;obtain ⟨T1, i1, a1, a2, a3⟩ := h.wh k t ht;have a2' := hx.chosen a2;obtain ⟨b1, b2⟩ := o1.kept a2' (some_ne q1) (by omega);rw [q2] at b1 b2;have hkF : k < (g1.fl i).length := by omega
  have hks : k < G.seen.length := (List.getElem?_eq_some_iff.1 hk).1;refine ⟨by omega, ?_⟩;have e := r1.item (k := k) (by omega) hkF;have e9 : ((k + 1 : Nat) : Int) = (k : Int) + 1 := by omega
  rw [e9] at e;rw [e];rcases hseen1 with h9 | ⟨T2, i2, c1, c2, c3⟩
  ·rw [h9] at hks; simp at hks
  ·have h3 := o1.chosen2 c1 a2' (m := k + 1) (by omega) (by omega);have h4 : G.seen[k]? = (g1.fl i)[k]? := by
    have h5 : G.seen.take (k + 1) = (g1.fl i).take (k + 1) := by
     have h6 : G.seen.take (k + 1) = (g1.gl T2).take (k + 1) := by rw [c3, List.take_take, Nat.min_eq_left (by omega)]
     rw [h6, h3];exact (take_le b2 (by omega)).symm
    exact get_take h5 (by omega)
   rw [List.getD_eq_getElem?_getD, ← h4, hk]; rfl
 have hjst : R'.jumped = true → R'.state = stOf R'.applied.toNat := r1.st.2.2;have hats : (({ G with rs := G.rs.set i R' } : PGroup).jumpd i R').ats[i]? = some R'.applied := by
  unfold PGroup.jumpd;by_cases hj : R'.jumped = true
  ·rw [if_pos hj];show (G.ats.set i (atOf R'.state))[i]? = _;rw [List.getElem?_set, if_pos rfl, if_pos (by omega), hjst hj, atOf_st (by omega)]
   congr 1
   omega
  ·rw [if_neg hj];show G.ats[i]? = _;rcases hap with h7 | h7
   ·exact absurd h7 hj
   ·rw [h7]; exact ra
 obtain ⟨ns0, hns0⟩ : ∃ ns0, G.nt[i]? = some ns0 := ⟨_, List.getElem?_eq_getElem (by omega)⟩
 obtain ⟨hd0, hhd0⟩ : ∃ hd0, G.hd[i]? = some hd0 := ⟨_, List.getElem?_eq_getElem (by omega)⟩
 obtain ⟨st1, st2⟩ := h.st i R hd0 ns0 hR hhd0 hns0;have hgd : G.nt.getD i [] = ns0 := by rw [List.getD_eq_getElem?_getD, hns0]; rfl
 refine ⟨⟨by show (G.rs.set i R')[i]? = _; rw [List.getElem?_set, if_pos rfl, if_pos hil], by show (G.rs.set i R').length = n; rw [List.length_set]; exact hrsl, hok, h.right, fun hj => by rw [hjst hj]; rfl, z2, hats, fun y hy => ?_, hol, by show (G.nt.getD i []).length ≤ _; rw [hgd]; omega, by omega, by show i < G.nt.length; omega, by show i < G.hd.length; omega, hap1, ?_, by omega, h.wl, hag, by show G.led.length ≤ _; have := h.ll; omega, by show (G.rs.set i R').length ≤ 7; rw [List.length_set]; have := h.n7; omega, fun hr y hy hyt => ?_, hlead, h.bagl⟩, ?_⟩
 ·have h9 := hout y hy;exact ⟨h9.right, h9.w0, h9.w1, h9.wn⟩
 ·show G.seen.length ≤ 10000;rcases h.seen with h9 | ⟨T1, i1, a1, a2, a3⟩
  ·rw [h9]; simp
  ·have h8 := (h.ok.gb T1 a1.1).1;have h7 := a1.2.2.1;omega
 ·obtain ⟨q1, -⟩ := r1.lead hr;obtain ⟨d, hd, hdl⟩ := h.led y hy;have h9 := hx.ldr _ _ hdl;rw [hyt, q1] at h9;injection h9 with h9
  rw [hd, ← h9]
 ·
  obtain ⟨l, tt, he, hll, hlm, htt⟩ := coll_eq G i R' hil (by omega);rw [hCn] at he;obtain ⟨S', hS'⟩ : ∃ S', S' = G.seen ++ (List.range (C - G.seen.length)).map (fun (m : Nat) => R'.item ((G.seen.length + m + 1 : Nat) : Int)) := ⟨_, rfl⟩
  rw [← hS'] at he;have hSl : S'.length = max G.seen.length C := by
   rw [hS', List.length_append, List.length_map, List.length_range]; omega
  have hSeen : S' = [] ∨ ∃ T1 i1, g1.Chosen n T1 i1 ∧ S'.length ≤ i1 ∧ S' = (g1.gl T1).take S'.length := by
   by_cases hCs : C ≤ G.seen.length
   ·have e : S' = G.seen := by
     rw [hS', show C - G.seen.length = 0 by omega]; simp
    rw [e]; exact hseen1
   ·have e : S' = (g1.fl i).take C := by
     have h1 : (List.range (C - G.seen.length)).map (fun (m : Nat) => R'.item ((G.seen.length + m + 1 : Nat) : Int)) = (List.range (C - G.seen.length)).map (fun m => (g1.fl i).getD (G.seen.length + m) (0, [])) := by
      refine List.map_congr_left fun m hm => ?_
      rw [List.mem_range] at hm;exact r1.item (by omega) (by omega)
     rw [hS', h1, range_items _ _ _ (by omega)];have h2 := hone G.seen.length (Nat.le_refl _) (by omega);rw [List.take_length] at h2;have h3 : (g1.fl i).take C = (g1.fl i).take G.seen.length ++ ((g1.fl i).drop G.seen.length).take (C - G.seen.length) := by
      rw [← List.take_add]
      congr 1
      omega
     rw [h3, ← h2]
    rcases hcom.2 with h9 | ⟨T1, i1, a1, a2, a3, a4⟩
    ·omega
    ·have e2 : S'.length = C := by omega
     refine .inr ⟨T1, i1, a2, by omega, ?_⟩;rw [e2, e]; exact a4
  have hsl4 : S'.length ≤ 4000 := by
   rcases hSeen with h9 | ⟨T1, i1, a1, a2, a3⟩
   ·rw [h9]; simp
   ·have h8 := (o1.gb T1 a1.1).1;have h7 := a1.2.2.1;omega
  have hsnle : g1.sn ≤ S'.length := by omega
  have hx2 : g1.Ext (g1.saw S'.length) n := Gh.saw_ext hsnle;refine ⟨g1.saw S'.length, ?_⟩;rw [he];have hmail := mailAdd_mem (i := i) (P := fun y => ∃ (f : Nat) (x : PLet), y.1 = f ∧ y.2.2 = putL x ∧ Lt (g1.saw S'.length) n f y.2.1 x) R'.out G.bag (fun y hy => by
   obtain ⟨f, x, a1, a2, a3⟩ := h.bag y hy;exact ⟨f, x, a1, a2, (a3.ext hx).ext hx2⟩) (fun y hy => ⟨i, y.2, rfl, rfl, (hout y hy).ext hx2⟩) h.bagl
  refine ⟨Gh.saw_ok o1, by show g1.cnt ≤ c + 1; omega, rfl, h.n1, h.n7, by rw [List.length_set]; exact hrsl, ?_, by rw [List.length_set]; exact hntl, ?_, h.right, fun k Q hQ => ?_, fun k Q hh ns hQ hhk hnk => ?_, hmail.1, hmail.2, ?_, ?_, fun k t hk => ?_, fun y hy => ?_, by show l.length ≤ c + 1; have := h.ll; omega⟩
  ·show (if R'.jumped = true then G.hd.set i R'.head else G.hd).length = n;split
   ·rw [List.length_set]; exact hhdl
   ·exact hhdl
  ·show ((if R'.jumped = true then G.ats.set i (atOf R'.state) else G.ats).set i (C : Int)).length = n;rw [List.length_set];split
   ·rw [List.length_set]; exact hatl
   ·exact hatl
  ·have hQ : (G.rs.set i { R' with jumped := false, news := [], out := [], applied := (C : Int) })[k]? = some Q := hQ;have hatk : ((if R'.jumped = true then G.ats.set i (atOf R'.state) else G.ats).set i (C : Int))[k]? = if k = i then some (C : Int) else G.ats[k]? := by
    rw [List.getElem?_set];by_cases e : i = k
    ·subst e;rw [if_pos rfl, if_pos rfl, if_pos];split
     ·rw [List.length_set]; omega
     ·omega
    ·have e' : ¬ k = i := fun e9 => e e9.symm
     rw [if_neg e, if_neg e'];split
     ·rw [List.getElem?_set, if_neg e]
     ·rfl
   show _ ∧ _ ∧ _ ∧ _ ∧ _ ∧ ((if R'.jumped = true then G.ats.set i (atOf R'.state) else G.ats).set i (C : Int))[k]? = some Q.applied;rw [hatk];rw [List.getElem?_set] at hQ;by_cases e : i = k
   ·subst e;rw [if_pos rfl, if_pos hil] at hQ;injection hQ with hQ
    subst hQ;have h9 := (r1.saw hsnle).rest (by show R'.commit ≤ (S'.length : Int); omega);rw [hCn] at h9;rw [if_pos rfl];exact ⟨h9, rfl, rfl, rfl, hC, rfl⟩
   ·rw [if_neg e] at hQ;have e' : ¬ k = i := fun e9 => e e9.symm
    rw [if_neg e'];obtain ⟨p1, p2, p3, p4, p5, p6⟩ := h.ri k Q hQ;exact ⟨(p1.other s1 (fun e9 => e e9.symm)).saw hsnle, p2, p3, p4, p5, p6⟩
  ·have hQ : (G.rs.set i { R' with jumped := false, news := [], out := [], applied := (C : Int) })[k]? = some Q := hQ;have hhk : (if R'.jumped = true then G.hd.set i R'.head else G.hd)[k]? = some hh := hhk;have hnk : (G.nt.set i (if R'.jumped = true then [] else G.nt.getD i [] ++ R'.news))[k]? = some ns := hnk;rw [List.getElem?_set] at hQ hnk;by_cases e : i = k
   ·subst e;rw [if_pos rfl, if_pos hil] at hQ;injection hQ with hQ
    rw [if_pos rfl, if_pos (by omega)] at hnk;injection hnk with hnk
    have hbare : Q.bare = R'.bare := by rw [← hQ]; rfl
    rw [hbare];by_cases hj : R'.jumped = true
    ·rw [if_pos hj] at hhk hnk;rw [List.getElem?_set, if_pos rfl, if_pos (by omega)] at hhk;injection hhk with hhk
     subst hhk hnk;have h9 := keep_self9 hok z1;rw [r1.me, r1.nn] at h9;rw [h9];exact ⟨rfl, by simp⟩
    ·rw [if_neg hj] at hhk hnk;rw [hhd0] at hhk;injection hhk with hhk
     subst hhk;rcases ht with h9 | ⟨nw, t1, t2, t3⟩
     ·exact absurd h9 hj
     ·rw [rn, List.nil_append] at t1;rw [hgd, t1] at hnk;subst hnk;refine ⟨?_, by rw [List.length_append, ← t1]; omega⟩;cases hld : loadH (PRaft.new i n) hd0 with
      | none => rw [hld] at st1; cases st1
      | some Z =>
       rw [hld] at st1;have st1 : Z.loads ns0 = some R.bare := st1;show Z.loads (ns0 ++ nw) = _;rw [loads_append, st1]; exact t2
   ·rw [if_neg e] at hQ hnk;have hhk : G.hd[k]? = some hh := by
     split at hhk
     ·rw [List.getElem?_set, if_neg e] at hhk; exact hhk
     ·exact hhk
    obtain ⟨p1, p2⟩ := h.st k Q hh ns hQ hhk hnk;exact ⟨p1, by omega⟩
  ·exact hSeen
  ·show (G.wh ++ List.replicate (C - G.seen.length) tt).length = S'.length;rw [List.length_append, List.length_replicate, h.wl]; omega
  ·have hk : (G.wh ++ List.replicate (C - G.seen.length) tt)[k]? = some t := hk;by_cases hkw : k < G.wh.length
   ·rw [List.getElem?_append_left hkw] at hk;obtain ⟨T1, i1, a1, a2, a3⟩ := h.wh k t hk;exact ⟨T1, i1, a1, hx.chosen a2, a3⟩
   ·rw [List.getElem?_append_right (by omega)] at hk;have h9 := List.mem_of_getElem? hk;have hlt := (List.getElem?_eq_some_iff.1 hk).1;rw [List.length_replicate] at hlt;rw [List.mem_replicate] at h9;have hwl := h.wl;rcases hcom.2 with h8 | ⟨T1, i1, a1, a2, a3, a4⟩
    ·omega
    ·exact ⟨T1, i1, by omega, a2, by omega⟩
  ·rcases hlm y hy with h9 | ⟨h9, h8⟩
   ·obtain ⟨d, hd, hdl⟩ := h.led y h9;exact ⟨d, hd, hx.ldr _ _ hdl⟩
   ·refine ⟨i, by rw [h9], ?_⟩;rw [h9];exact (r1.lead h8).1
end
end Go.Proofs.YtogcnfhmcpkdcaaGreat
namespace Go.Proofs.YtogcnfhmcpkdcaaGreat
open Go.RowKit
set_option linter.unusedVariables false
set_option linter.unusedSimpArgs false
section
variable {n i j c : Nat} {g g' : Gh} {R R' : PRaft} {G : PGroup}
theorem SI.tick (h : SI g n c G) (hc : c ≤ 2000) (hR : G.rs[i]? = some R) : Cw { G with rs := G.rs.set i R.tick } i n R.tick ∧ ∃ g', SI g' n (c + 1) (({ G with rs := G.rs.set i R.tick } : PGroup).coll i R.tick) := by
 obtain ⟨ri, ro, rn, rj, rc, ra⟩ := h.ri i R hR;obtain ⟨g1, g2, -⟩ := grows_tick ri.ok.n7;rw [rn] at g1;rw [ro] at g2;exact h.acted hc hR (ri.tick h.ok) (.inr (tells_tick ri.ok)) (.inr (ap_tick R)) (by simpa using g1) (by simp at g2; omega)
theorem SI.propose (h : SI g n c G) (hc : c ≤ 2000) (hR : G.rs[i]? = some R) {b : List UInt8} (hb : b.length ≤ 50) : Cw { G with rs := G.rs.set i (R.propose b).1 } i n (R.propose b).1 ∧ ∃ g', SI g' n (c + 1) (({ G with rs := G.rs.set i (R.propose b).1 } : PGroup).coll i (R.propose b).1) := by
 obtain ⟨ri, ro, rn, rj, rc, ra⟩ := h.ri i R hR;obtain ⟨g1, g2, -⟩ := grows_propose ri.ok.n7 b;rw [rn] at g1;rw [ro] at g2;exact h.acted hc hR (ri.propose h.ok hb) (.inr (tells_propose ri.ok b)) (.inr (ap_propose R b)) (by simp at g1; omega) (by simp at g2; omega)
theorem SI.idle (h : SI g n c G) (hc : c ≤ 2000) (hR : G.rs[i]? = some R) : Cw G i n R ∧ ∃ g', SI g' n (c + 1) (G.coll i R) := by
 obtain ⟨ri, ro, rn, rj, rc, ra⟩ := h.ri i R hR;have h9 := h.acted hc hR (Acted.still (d := 1) h.ok ri rfl) (.inr (.refl R)) (.inr rfl) (by rw [rn]; simp) (by rw [ro]; simp);have e : ({ G with rs := G.rs.set i R } : PGroup) = G := by rw [set_self hR]
 rw [e] at h9;exact h9
theorem SI.without (h : SI g n c G) (k : Nat) : SI g n c { G with bag := G.bag.take k ++ G.bag.drop (k + 1) } :=
 ⟨h.ok, h.cnt, h.sn, h.n1, h.n7, h.rsl, h.hdl, h.ntl, h.atl, h.right, h.ri, h.st, fun y hy => by
  rcases List.mem_append.1 hy with hy | hy
  ·exact h.bag y (List.mem_of_mem_take hy)
  ·exact h.bag y (List.mem_of_mem_drop hy), by
  have h9 := h.bagl;show (G.bag.take k ++ G.bag.drop (k + 1)).length ≤ 2000;rw [List.length_append, List.length_take, List.length_drop]; omega, h.seen, h.wl, h.wh, h.led, h.ll⟩
theorem SI.twice (h : SI g n c G) {y : PMail} (hy : y ∈ G.bag) (hl : G.bag.length < 2000) : SI g n c { G with bag := G.bag ++ [y] } :=
 ⟨h.ok, h.cnt, h.sn, h.n1, h.n7, h.rsl, h.hdl, h.ntl, h.atl, h.right, h.ri, h.st, fun z hz => by
  rcases List.mem_append.1 hz with hz | hz
  ·exact h.bag z hz
  ·rw [List.mem_singleton] at hz; subst hz; exact h.bag z hy, by
  show (G.bag ++ [y]).length ≤ 2000;rw [List.length_append, List.length_singleton]; omega, h.seen, h.wl, h.wh, h.led, h.ll⟩
theorem SI.handle (h : SI g n c G) (hc : c ≤ 2000) (hR : G.rs[i]? = some R) {f : Nat} {x : PLet} (hl : Lt g n f i x) : Cw { G with rs := G.rs.set i (R.handle f x) } i n (R.handle f x) ∧ ∃ g', SI g' n (c + 1) (({ G with rs := G.rs.set i (R.handle f x) } : PGroup).coll i (R.handle f x)) := by
 obtain ⟨ri, ro, rn, rj, rc, ra⟩ := h.ri i R hR;obtain ⟨g1, g2, -⟩ := grows_handle ri.ok f x;rw [rn] at g1;rw [ro] at g2;exact h.acted hc hR (ri.handle h.ok hl) ((tells_handle ri.ok f x).symm) (ap_handle R f x) (by simpa using g1) (by simp at g2; omega)
theorem SI.load (h : SI g n c G) (hR : G.rs[i]? = some R) : ∃ hd ns, G.hd[i]? = some hd ∧ G.nt[i]? = some ns ∧ ns.length ≤ 4097 * c ∧ loadP i n hd ns = some R.bare.base ∧ SI g n c { G with rs := G.rs.set i R.bare.base, ats := G.ats.set i R.line.base } := by
 obtain ⟨ri, ro, rn, rj, rc, ra⟩ := h.ri i R hR;have hil : i < G.rs.length := (List.getElem?_eq_some_iff.1 hR).1;have hrsl := h.rsl; have hhdl := h.hdl; have hntl := h.ntl; have hatl := h.atl;obtain ⟨ns0, hns0⟩ : ∃ ns0, G.nt[i]? = some ns0 := ⟨_, List.getElem?_eq_getElem (by omega)⟩
 obtain ⟨hd0, hhd0⟩ : ∃ hd0, G.hd[i]? = some hd0 := ⟨_, List.getElem?_eq_getElem (by omega)⟩
 obtain ⟨st1, st2⟩ := h.st i R hd0 ns0 hR hhd0 hns0;refine ⟨hd0, ns0, hhd0, hns0, st2, ?_, ⟨h.ok, h.cnt, h.sn, h.n1, h.n7, by show (G.rs.set i _).length = n; rw [List.length_set]; exact hrsl, hhdl, hntl, by show (G.ats.set i _).length = n; rw [List.length_set]; exact hatl, h.right, fun k Q hQ => ?_, fun k Q hh ns hQ hhk hnk => ?_, h.bag, h.bagl, h.seen, h.wl, h.wh, h.led, h.ll⟩⟩
 ·unfold loadP;cases hld : loadH (PRaft.new i n) hd0 with
  | none => rw [hld] at st1; cases st1
  | some S =>
   rw [hld] at st1;have st1 : S.loads ns0 = some R.bare := st1;show (S.loads ns0).map PRaft.base = _;rw [st1]; rfl
 ·have hQ : (G.rs.set i R.bare.base)[k]? = some Q := hQ;show _ ∧ _ ∧ _ ∧ _ ∧ _ ∧ (G.ats.set i R.line.base)[k]? = some Q.applied;rw [List.getElem?_set] at hQ ⊢;by_cases e : i = k
  ·subst e;rw [if_pos rfl, if_pos hil] at hQ;rw [if_pos rfl, if_pos (by omega)];injection hQ with hQ
   subst hQ;exact ⟨ri.load, rfl, rfl, rfl, rfl, rfl⟩
  ·rw [if_neg e] at hQ ⊢;exact h.ri k Q hQ
 ·have hQ : (G.rs.set i R.bare.base)[k]? = some Q := hQ;rw [List.getElem?_set] at hQ;by_cases e : i = k
  ·subst e;rw [if_pos rfl, if_pos hil] at hQ;injection hQ with hQ
   subst hQ;exact h.st i R hh ns hR hhk hnk
  ·rw [if_neg e] at hQ;exact h.st k Q hh ns hQ hhk hnk
theorem SI.compact (h : SI g n c G) (hc : c ≤ 2000) (hR : G.rs[i]? = some R) (hy : (R.compact (stOf R.applied.toNat)).2 = true) : (R.compact (stOf R.applied.toNat)).1.line.put.length ≤ 900000 ∧ (R.compact (stOf R.applied.toNat)).1.state.length ≤ 70000 ∧ SI g n c { G with rs := G.rs.set i (R.compact (stOf R.applied.toNat)).1, hd := G.hd.set i (R.compact (stOf R.applied.toNat)).1.head, nt := G.nt.set i [] } := by
 obtain ⟨ri, ro, rn, rj, rc, ra⟩ := h.ri i R hR;have hil : i < G.rs.length := (List.getElem?_eq_some_iff.1 hR).1;have hrsl := h.rsl; have hhdl := h.hdl; have hntl := h.ntl; have hcnt := h.cnt;have r1 := ri.compact rj (s := stOf R.applied.toNat) rfl;obtain ⟨z1, z2, z3, z4⟩ := r1.sizes h.ok (by omega);have hsame : (R.compact (stOf R.applied.toNat)).1.out = R.out ∧ (R.compact (stOf R.applied.toNat)).1.news = R.news ∧ (R.compact (stOf R.applied.toNat)).1.jumped = R.jumped ∧ (R.compact (stOf R.applied.toNat)).1.commit = R.commit ∧ (R.compact (stOf R.applied.toNat)).1.applied = R.applied := by
  unfold PRaft.compact;split <;> exact ⟨rfl, rfl, rfl, rfl, rfl⟩
 obtain ⟨R', hR'⟩ : ∃ R', R' = (R.compact (stOf R.applied.toNat)).1 := ⟨_, rfl⟩
 rw [← hR'] at r1 z1 z2 z3 hsame ⊢;obtain ⟨s1, s2, s3, s4, s5⟩ := hsame;have hks := keep_self9 r1.ok z1;rw [r1.me, r1.nn] at hks;refine ⟨z2, z3, ⟨h.ok, h.cnt, h.sn, h.n1, h.n7, by show (G.rs.set i _).length = n; rw [List.length_set]; exact hrsl, by show (G.hd.set i _).length = n; rw [List.length_set]; exact hhdl, by show (G.nt.set i _).length = n; rw [List.length_set]; exact hntl, h.atl, h.right, fun k Q hQ => ?_, fun k Q hh ns hQ hhk hnk => ?_, h.bag, h.bagl, h.seen, h.wl, h.wh, h.led, h.ll⟩⟩
 ·have hQ : (G.rs.set i R')[k]? = some Q := hQ;rw [List.getElem?_set] at hQ;by_cases e : i = k
  ·subst e;rw [if_pos rfl, if_pos hil] at hQ;injection hQ with hQ
   subst hQ;exact ⟨r1, by rw [s1]; exact ro, by rw [s2]; exact rn, by rw [s3]; exact rj, by rw [s4, s5]; exact rc, by rw [s5]; exact ra⟩
  ·rw [if_neg e] at hQ;exact h.ri k Q hQ
 ·have hQ : (G.rs.set i R')[k]? = some Q := hQ;have hhk : (G.hd.set i R'.head)[k]? = some hh := hhk;have hnk : (G.nt.set i [])[k]? = some ns := hnk;rw [List.getElem?_set] at hQ hhk hnk;by_cases e : i = k
  ·subst e;rw [if_pos rfl, if_pos hil] at hQ;rw [if_pos rfl, if_pos (by omega)] at hhk hnk;injection hQ with hQ
   injection hhk with hhk
   injection hnk with hnk
   subst hQ hhk hnk;rw [hks];exact ⟨rfl, by simp⟩
  ·rw [if_neg e] at hQ hhk hnk;exact h.st k Q hh ns hQ hhk hnk
def Gh.zero : Gh := ⟨fun _ => [], fun _ => [], fun _ => none, fun _ _ => 0, fun _ _ => none, fun _ _ => [], fun _ => 0, 0, 0⟩
theorem Gh.zero_ok (n : Nat) : Gh.zero.Ok n :=
 ⟨fun T h => absurd rfl h, fun j _ i h1 h2 => by have h2 : i ≤ 0 := h2; omega, fun c T _ i h1 h2 => by have h2 : i ≤ 0 := h2; omega, fun k T _ h => by have h : 0 < 0 := h; omega, fun k _ => ⟨rfl, Nat.le_refl _⟩, fun k T i _ _ h => absurd rfl h, fun k T c _ h => (by cases h), fun k c T T0 i _ h => (by cases h), fun T T0 i h => absurd rfl h, fun T c h => (by cases h), fun T c h => (by cases h), fun k _ => ⟨Nat.le_refl _, fun it hit => (by cases hit)⟩, fun T h => absurd rfl h⟩
theorem si_made (n : Nat) (h1 : 1 ≤ n) (h7 : n ≤ 7) : SI Gh.zero n 0 (PGroup.made n) := by
 have hrs : ∀ (k : Nat) (Q : PRaft), (PGroup.made n).rs[k]? = some Q → k < n ∧ Q = PRaft.new k n := fun k Q hQ => by
  have hQ : ((List.range n).map fun (j : Nat) => PRaft.new (j : Int) n)[k]? = some Q := hQ;rw [List.getElem?_map] at hQ;by_cases hk : k < n
  ·rw [List.getElem?_range hk] at hQ;injection hQ with hQ
   exact ⟨hk, hQ.symm⟩
  ·rw [List.getElem?_eq_none (by simp; omega)] at hQ;cases hQ
 refine ⟨Gh.zero_ok n, Nat.le_refl _, rfl, h1, h7, by simp [PGroup.made, PGroup.madeN], by simp [PGroup.made, PGroup.madeN], by simp [PGroup.made, PGroup.madeN], by simp [PGroup.made, PGroup.madeN], rfl, fun k Q hQ => ?_, fun k Q hh ns hQ hhk hnk => ?_, fun y hy => ?_, by simp [PGroup.made, PGroup.madeN], .inl rfl, rfl, fun k t hk => ?_, fun x hx => ?_, Nat.le_refl _⟩
 ·obtain ⟨hk, rfl⟩ := hrs k Q hQ;have hok := ok_new (me := (k : Int)) (n := (n : Int)) (by omega) (by omega) (by omega) (by omega);refine ⟨⟨hok, rfl, rfl, rfl, ⟨0, Nat.le_refl _, rfl⟩, .inl ⟨rfl, rfl⟩, fun hr => ?_, fun hr => ?_, ⟨Nat.le_refl _, .inl rfl⟩, ⟨fun hb => ?_, by show (0 : Int) ≤ ((0 : Nat) : Int); omega, fun e => by cases e⟩⟩, rfl, rfl, rfl, rfl, ?_⟩
  ·have hr : (0 : Int) = 1 := hr;omega
  ·have hr : (0 : Int) = 2 := hr;omega
  ·have hb : (1 : Int) ≤ 0 := hb;omega
  ·show ((List.range n).map fun _ => (0 : Int))[k]? = some 0;rw [List.getElem?_map, List.getElem?_range hk]; rfl
 ·obtain ⟨hk, rfl⟩ := hrs k Q hQ;have hok := ok_new (me := (k : Int)) (n := (n : Int)) (by omega) (by omega) (by omega) (by omega);have hhk : ((List.range n).map fun (j : Nat) => (PRaft.new (j : Int) n).head)[k]? = some hh := hhk;have hnk : ((List.range n).map fun _ => ([] : List (List UInt8)))[k]? = some ns := hnk;rw [List.getElem?_map, List.getElem?_range hk] at hhk hnk;injection hhk with hhk
  injection hnk with hnk
  subst hhk hnk;have h9 := keep_self9 hok (by show (putItems []).length ≤ 800000; decide);have h9 : loadH (PRaft.new k n) (PRaft.new k n).head = some (PRaft.new k n).bare := h9;rw [h9];exact ⟨rfl, by simp⟩
 ·have hy : y ∈ ([] : List PMail) := hy;cases hy
 ·have hk : ([] : List Int)[k]? = some t := hk;simp at hk
 ·have hx : x ∈ ([] : List (Int × Int)) := hx;cases hx
end
end Go.Proofs.YtogcnfhmcpkdcaaGreat
