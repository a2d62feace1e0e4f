/-
  The plain law of layer 18: what comes to a replica, and what holds of it at any time. No walk.
-/
import Derived.Test.YtogcnfhmcpkdcaaGreatRaftM2
namespace Go.Proofs.YtogcnfhmcpkdcaaGreat
open Go.RowKit
set_option linter.unusedVariables false
set_option linter.unusedSimpArgs false
def PRaft.asked (R : PRaft) (f : Int) (x : PLet) : PRaft :=
 let an := asNew x.a x.u R.line.last (tmIs R.line R.line.last).1
 let yes := granted R.bt R.bf f x.t an
 let R1 : PRaft := if yes = true then { R with ticks := 0 } else R
 let R2 : PRaft := if grantT R.bt R.bf f x.t an ≠ R.bt ∨ grantF R.bt R.bf f x.t an ≠ R.bf then ({ R1 with bt := grantT R.bt R.bf f x.t an, bf := grantF R.bt R.bf f x.t an } : PRaft).noteBallot else R1
 R2.post f ⟨2, 0, 0, 0, 0, yes, [], []⟩
def PRaft.said (R : PRaft) (f : Int) (x : PLet) : PRaft := if R.role = 1 ∧ x.t = R.bt ∧ x.y = true then R.count f else R
def PRaft.follows (R : PRaft) (f : Int) (x : PLet) : PRaft × Bool :=
 if x.t < R.bt then (R.post f ⟨4, 0, 0, 0, x.a, false, [], []⟩, false)
 else if R.role = 2 then (R, false)
 else ({ R with role := 0, lead := f, ticks := 0 }, true)
def PRaft.sent1 (R : PRaft) (f : Int) (x : PLet) : PRaft :=
 let J := R.line.join x.a x.u x.its
 if J.2.2 = true ∧ 0 < J.2.1 ∧ J.2.1 ≤ R.commit then R
 else if J.2.2 = false then R.post f ⟨4, 0, max 0 (min R.line.last (x.a - 1)), 0, x.a, false, [], []⟩
 else
  let R1 := if 0 < J.2.1 then ({ R with line := J.1 } : PRaft).noteItems J.2.1 else R
  ({ R1 with commit := max R1.commit (min x.o (x.a + x.its.length)) } : PRaft).post f ⟨4, 0, x.a + x.its.length, 0, x.a, true, [], []⟩
def PRaft.sent (R : PRaft) (f : Int) (x : PLet) : PRaft := if (R.follows f x).2 = true then (R.follows f x).1.sent1 f x else (R.follows f x).1
def PRaft.giveLine (R : PRaft) (x : PLet) : PLine := if (tmIs R.line x.a).2 = true ∧ (tmIs R.line x.a).1 = x.u then (R.line.drop x.a).1 else ⟨x.a, x.u, []⟩
def PRaft.given1 (R : PRaft) (f : Int) (x : PLet) : PRaft :=
 if x.a ≤ R.commit then R.post f ⟨4, 0, R.commit, 0, x.a, true, [], []⟩
 else ({ R with line := R.giveLine x, commit := x.a, applied := x.a, state := x.b, jumped := true } : PRaft).post f ⟨4, 0, x.a, 0, x.a, true, [], []⟩
def PRaft.given (R : PRaft) (f : Int) (x : PLet) : PRaft := if (R.follows f x).2 = true then (R.follows f x).1.given1 f x else (R.follows f x).1
def PRaft.got (R : PRaft) (f : Int) (x : PLet) : PRaft :=
 if R.role ≠ 2 ∨ x.t ≠ R.bt then R
 else if x.y = true ∧ x.a ≤ R.line.last then
  let R2 := ({ R with mat := R.mat.set f.toNat (max (R.mat.getD f.toNat 0) x.a), nxt := R.nxt.set f.toNat (max (R.nxt.getD f.toNat 0) (x.a + 1)) } : PRaft).look
  if R2.nxt.getD f.toNat 0 ≤ R2.line.last then R2.send f else R2
 else if x.y = false ∧ x.o = R.nxt.getD f.toNat 0 - 1 ∧ R.mat.getD f.toNat 0 < x.o then
  ({ R with nxt := R.nxt.set f.toNat (max (R.mat.getD f.toNat 0 + 1) (min (x.a + 1) x.o)) } : PRaft).send f
 else R
def PRaft.stepUp (R : PRaft) (t : Int) : PRaft := if R.bt < t then { ({ R with bt := t, bf := -1 } : PRaft).noteBallot with role := 0, lead := -1 } else R
def PRaft.heard (R : PRaft) (f : Int) (x : PLet) : PRaft :=
 if x.k = 1 then R.asked f x else if x.k = 2 then R.said f x else if x.k = 3 then R.sent f x else if x.k = 4 then R.got f x else if x.k = 5 then R.given f x else R
def PRaft.handle (R : PRaft) (f : Int) (x : PLet) : PRaft :=
 if f < 0 ∨ R.n ≤ f ∨ f = R.me ∨ rightL x = false then R else (R.stepUp x.t).heard f x
theorem granted_t {bt bf f t : Int} {an : Bool} (h : granted bt bf f t an = true) : t = bt := by
 simp [granted] at h; omega
theorem granted_who {bt bf f t : Int} {an : Bool} (h : granted bt bf f t an = true) : isWho f = true := by
 simp [granted] at h; exact h.1.1.1
theorem grantT_eq (bt bf f t : Int) (an : Bool) : grantT bt bf f t an = bt := by
 unfold grantT; split
 ·rename_i h; exact granted_t h
 ·rfl
section
variable {R : PRaft}
theorem PRaft.Ok.out (h : R.Ok) (o : List PPost) : ({ R with out := o } : PRaft).Ok := ⟨h.n1, h.n7, h.me0, h.men, h.bt0, h.bt1, h.bf0, h.bf1, h.line, h.ap0, h.ap1, h.cm, h.tk0, h.tk1, h.v7, h.m7, h.x7, h.vs, h.mss, h.xs, h.role0, h.role2, h.rb, h.st⟩
theorem PRaft.Ok.nws (h : R.Ok) (o : List (List UInt8)) : ({ R with news := o } : PRaft).Ok := ⟨h.n1, h.n7, h.me0, h.men, h.bt0, h.bt1, h.bf0, h.bf1, h.line, h.ap0, h.ap1, h.cm, h.tk0, h.tk1, h.v7, h.m7, h.x7, h.vs, h.mss, h.xs, h.role0, h.role2, h.rb, h.st⟩
theorem PRaft.Ok.tick0 (h : R.Ok) {k : Int} (h0 : 0 ≤ k) (h1 : k ≤ 40) : ({ R with ticks := k } : PRaft).Ok := ⟨h.n1, h.n7, h.me0, h.men, h.bt0, h.bt1, h.bf0, h.bf1, h.line, h.ap0, h.ap1, h.cm, h0, h1, h.v7, h.m7, h.x7, h.vs, h.mss, h.xs, h.role0, h.role2, h.rb, h.st⟩
theorem PRaft.Ok.ballot (h : R.Ok) {t f : Int} (h0 : R.bt ≤ t) (h1 : t ≤ 1099511627776) (f0 : -1 ≤ f) (f1 : f ≤ 6) : ({ R with bt := t, bf := f } : PRaft).Ok := ⟨h.n1, h.n7, h.me0, h.men, by have := h.bt0; show 0 ≤ t; omega, h1, f0, f1, h.line, h.ap0, h.ap1, h.cm, h.tk0, h.tk1, h.v7, h.m7, h.x7, h.vs, h.mss, h.xs, h.role0, h.role2, fun hr => by have := h.rb hr; show 1 ≤ t; omega, h.st⟩
theorem PRaft.Ok.roled (h : R.Ok) {r l : Int} (h0 : 0 ≤ r) (h1 : r ≤ 2) (hb : r ≠ 0 → 1 ≤ R.bt) : ({ R with role := r, lead := l } : PRaft).Ok := ⟨h.n1, h.n7, h.me0, h.men, h.bt0, h.bt1, h.bf0, h.bf1, h.line, h.ap0, h.ap1, h.cm, h.tk0, h.tk1, h.v7, h.m7, h.x7, h.vs, h.mss, h.xs, h0, h1, hb, h.st⟩
theorem PRaft.Ok.voted (h : R.Ok) {v : List Int} (h7 : v.length = 7) (hv : ∀ x ∈ v, 0 ≤ x ∧ x ≤ 1) : ({ R with votes := v } : PRaft).Ok := ⟨h.n1, h.n7, h.me0, h.men, h.bt0, h.bt1, h.bf0, h.bf1, h.line, h.ap0, h.ap1, h.cm, h.tk0, h.tk1, h7, h.m7, h.x7, hv, h.mss, h.xs, h.role0, h.role2, h.rb, h.st⟩
theorem PRaft.Ok.matched (h : R.Ok) {m x : List Int} (hm : m.length = 7) (hx : x.length = 7) (hms : ∀ y ∈ m, 0 ≤ y ∧ y ≤ 1099511627776) (hxs : ∀ y ∈ x, 0 ≤ y ∧ y ≤ 1099511627777) : ({ R with mat := m, nxt := x } : PRaft).Ok := ⟨h.n1, h.n7, h.me0, h.men, h.bt0, h.bt1, h.bf0, h.bf1, h.line, h.ap0, h.ap1, h.cm, h.tk0, h.tk1, h.v7, hm, hx, h.vs, hms, hxs, h.role0, h.role2, h.rb, h.st⟩
theorem PRaft.Ok.commits (h : R.Ok) {c : Int} (h0 : R.commit ≤ c) (h1 : c ≤ R.line.last) : ({ R with commit := c } : PRaft).Ok := ⟨h.n1, h.n7, h.me0, h.men, h.bt0, h.bt1, h.bf0, h.bf1, h.line, h.ap0, by have := h.ap1; show R.applied ≤ c; omega, h1, h.tk0, h.tk1, h.v7, h.m7, h.x7, h.vs, h.mss, h.xs, h.role0, h.role2, h.rb, h.st⟩
theorem PRaft.Ok.lined (h : R.Ok) {x : PLine} (hg : x.Good) (hb : x.base = R.line.base) (hc : R.commit ≤ x.last) : ({ R with line := x } : PRaft).Ok := ⟨h.n1, h.n7, h.me0, h.men, h.bt0, h.bt1, h.bf0, h.bf1, hg, by have := h.ap0; show x.base ≤ R.applied; omega, h.ap1, hc, h.tk0, h.tk1, h.v7, h.m7, h.x7, h.vs, h.mss, h.xs, h.role0, h.role2, h.rb, h.st⟩
theorem ok_new {me n : Int} (h1 : 1 ≤ n) (h7 : n ≤ 7) (hm : 0 ≤ me) (hn : me < n) : (PRaft.new me n).Ok :=
 ⟨h1, h7, hm, hn, by simp [PRaft.new, zeros7, PLine.last], by simp [PRaft.new, zeros7, PLine.last], by simp [PRaft.new, zeros7, PLine.last], by simp [PRaft.new, zeros7, PLine.last], new_good (b := 0) (t := 0) (by rfl), by simp [PRaft.new, zeros7, PLine.last], by simp [PRaft.new, zeros7, PLine.last], by simp [PRaft.new, zeros7, PLine.last], by simp [PRaft.new, zeros7, PLine.last], by simp [PRaft.new, zeros7, PLine.last], rfl, rfl, rfl, by simp [PRaft.new, zeros7, PLine.last], by simp [PRaft.new, zeros7, PLine.last], by simp [PRaft.new, zeros7, PLine.last], by simp [PRaft.new, zeros7, PLine.last], by simp [PRaft.new, zeros7, PLine.last], fun h => absurd rfl h, by simp [PRaft.new, zeros7, PLine.last]⟩
theorem ok_post (h : R.Ok) (who : Int) (x : PLet) : (R.post who x).Ok := h.out _
theorem ok_noteBallot (h : R.Ok) : R.noteBallot.Ok := h.nws _
theorem ok_noteItems (h : R.Ok) (a : Int) : (R.noteItems a).Ok := h.nws _
theorem ok_beat (h : R.Ok) : (R.others PRaft.send).Ok := by
 obtain ⟨o, ho, -⟩ := others_out (f := PRaft.send) send_eq R;rw [ho]; exact h.out _
theorem tmIs_in {x : PLine} (hg : x.Good) {i : Int} (h : (tmIs x i).1 ≠ 0) : x.base ≤ i ∧ i ≤ x.last := by
 unfold tmIs at h;split at h
 ·rename_i h9; exact (hg.tm_ge i).1 h9
 ·exact absurd rfl h
theorem set_bound {l : List Int} {i : Nat} {v a b : Int} (h : ∀ y ∈ l, a ≤ y ∧ y ≤ b) (hv : a ≤ v ∧ v ≤ b) : ∀ y ∈ l.set i v, a ≤ y ∧ y ≤ b := by
 intro y hy;rcases List.mem_or_eq_of_mem_set hy with hy | rfl
 ·exact h y hy
 ·exact hv
theorem getD_bound {l : List Int} {i : Nat} {a b : Int} (h : ∀ y ∈ l, a ≤ y ∧ y ≤ b) (hi : i < l.length) : a ≤ l.getD i 0 ∧ l.getD i 0 ≤ b := by
 rw [List.getD_eq_getElem?_getD, List.getElem?_eq_getElem hi];exact h _ (List.getElem_mem hi)
theorem last_bounds {x : PLine} (hg : x.Good) : 0 ≤ x.last ∧ x.last ≤ 1099511627776 := by
 have := hg.b0; have := hg.n2;have hl : x.last = x.base + (x.l.length : Int) := rfl;omega
theorem ok_look (h : R.Ok) (hb : 1 ≤ R.bt) : R.look.Ok := by
 obtain ⟨m, c, he, hm, hc⟩ := look_eq R;have hl := last_bounds h.line;rw [he];have h1 : ({ R with mat := m, nxt := R.nxt } : PRaft).Ok := h.matched (by rw [hm]; simp [h.m7]) h.x7 (by rw [hm]; exact set_bound h.mss hl) h.xs;rcases hc with rfl | ⟨h2, -, h3⟩
 ·exact h1
 ·exact h1.commits (c := c) (Int.le_of_lt h2) (tmIs_in h.line (by rw [h3]; omega)).2
theorem add_eq (x : PLine) (it : PItem) : (x.add it = (x, 0)) ∨ ((x.add it) = ({ x with l := x.l ++ [it] }, x.last + 1) ∧ rightI it = true ∧ fitsB x ((x.l.length : Int) + 1) = true) := by
 unfold PLine.add;split
 ·rename_i h; exact .inr ⟨rfl, h⟩
 ·exact .inl rfl
theorem ok_add (h : R.Ok) (it : PItem) : (R.add it).1.Ok := by
 refine h.lined (x := (R.line.add it).1) (h.line.add it) ?_ ?_
 ·rcases add_eq R.line it with e | ⟨e, -⟩ <;> rw [e]
 ·have := h.cm;rcases add_eq R.line it with e | ⟨e, -⟩ <;> rw [e]
  ·exact this
  ·have h1 : R.line.last = R.line.base + (R.line.l.length : Int) := rfl;show R.commit ≤ R.line.base + ((R.line.l ++ [it]).length : Int)
   simp; omega
theorem rep_bound {v a b : Int} (h : a ≤ v ∧ v ≤ b) (n : Nat) : ∀ y ∈ List.replicate n v, a ≤ y ∧ y ≤ b := fun y hy => by rw [List.eq_of_mem_replicate hy]; exact h
theorem ok_lead0 (h : R.Ok) (hb : 1 ≤ R.bt) : R.lead0.Ok := by
 have hl := last_bounds h.line;exact ((h.roled (r := 2) (l := R.me) (by omega) (by omega) (fun _ => hb)).tick0 (k := 0) (by omega) (by omega)).matched (m := zeros7) (x := List.replicate 7 (R.line.last + 1)) rfl (by simp) (by decide) (rep_bound ⟨by omega, by omega⟩ 7)
theorem lead1_eq (R : PRaft) : ∃ l n, R.lead1 = { R.lead0 with line := l, news := n } := by
 unfold PRaft.lead1;simp only;split
 ·exact ⟨_, _, rfl⟩
 ·exact ⟨(R.lead0.line.add (R.bt, [])).1, R.lead0.news, rfl⟩
theorem ok_lead1 (h : R.Ok) (hb : 1 ≤ R.bt) : R.lead1.Ok := by
 unfold PRaft.lead1;simp only;split
 ·exact ok_noteItems (ok_add (ok_lead0 h hb) _) _
 ·exact ok_add (ok_lead0 h hb) _
theorem ok_goLead (h : R.Ok) (hb : 1 ≤ R.bt) : R.goLead.Ok := by
 refine ok_beat (ok_look (ok_lead1 h hb) ?_);obtain ⟨l, n, e⟩ := lead1_eq R;rw [e]; exact hb
theorem ok_count (h : R.Ok) (hb : 1 ≤ R.bt) (f : Int) : (R.count f).Ok := by
 have h1 : ({ R with votes := R.votes.set f.toNat 1 } : PRaft).Ok := h.voted (by simp [h.v7]) (set_bound h.vs (by omega));unfold PRaft.count;simp only;split
 ·exact ok_goLead h1 hb
 ·exact h1
theorem ok_stand0 (h : R.Ok) (hb : R.bt < 1099511627776) : R.stand0.Ok := by
 have h1 : ({ R with ticks := 0 } : PRaft).Ok := h.tick0 (by omega) (by omega);have h0 := h.bt0; have h2 := h.me0; have h3 := h.men; have h4 := h.n7;have h5 : ({ R with ticks := 0, bt := R.bt + 1, bf := R.me } : PRaft).Ok := h1.ballot (t := R.bt + 1) (f := R.me) (by show R.bt ≤ R.bt + 1; omega) (by omega) (by omega) (by omega);exact ((ok_noteBallot h5).roled (r := 1) (l := -1) (by omega) (by omega) (fun _ => by show 1 ≤ R.bt + 1; omega)).voted (v := zeros7) rfl (by decide)
theorem others_out' (f : PRaft → Int → PRaft) (hf : ∀ R i, ∃ y, f R i = { R with out := R.out ++ [y] }) (R : PRaft) : ∃ o, R.others f = { R with out := o } := by
 obtain ⟨o, h, -⟩ := others_out hf R; exact ⟨o, h⟩
theorem ok_stand (h : R.Ok) : R.stand.Ok := by
 unfold PRaft.stand;split
 ·exact h.tick0 (by omega) (by omega)
 ·rename_i hb
  have h1 := ok_stand0 h (by omega);have h0 := h.bt0;obtain ⟨o, e⟩ := others_out' (fun S who => S.post who ⟨1, 0, R.line.last, (tmIs R.line R.line.last).1, 0, false, [], []⟩) (fun S i => ⟨_, rfl⟩) R.stand0;rw [e];exact ok_count (h1.out o) (by show 1 ≤ R.bt + 1; omega) _
theorem ok_tick (h : R.Ok) : R.tick.Ok := by
 unfold PRaft.tick;simp only;have h0 := h.tk0; have h1 := h.tk1; have h2 := h.me0; have h3 := h.men; have h4 := h.n7;split
 ·exact ok_beat (h.tick0 (k := 0) (by omega) (by omega))
 ·split
  ·by_cases h9 : R.ticks < 40
   ·exact ok_stand (h.tick0 (k := R.ticks + 1) (by omega) (by omega))
   ·
    have e : ({ R with ticks := R.ticks + 1 } : PRaft).stand = ({ R with ticks := R.ticks } : PRaft).stand := by
     unfold PRaft.stand; simp only; rfl
    rw [e];exact ok_stand (h.tick0 (k := R.ticks) h0 h1)
  ·rename_i h5 h6
   refine h.tick0 (k := R.ticks + 1) (by omega) ?_;by_cases hr : R.role = 2
   ·have : ¬ (4 ≤ R.ticks + 1) := fun h9 => h5 ⟨hr, h9⟩
    omega
   ·have : ¬ (20 + 2 * R.me ≤ R.ticks + 1) := fun h9 => h6 ⟨hr, h9⟩
    omega
theorem ok_compact (h : R.Ok) (s : List UInt8) : (R.compact s).1.Ok := by
 unfold PRaft.compact;split
 ·exact h
 ·rename_i h9
  have h8 : (R.line.drop R.applied).2 = true ∧ s.length ≤ 65536 := ⟨by cases hh : (R.line.drop R.applied).2 <;> simp_all, by omega⟩
  have hg := h.line.drop R.applied;have hdr : (R.line.drop R.applied).1 = ⟨R.applied, R.line.tm R.applied, R.line.l.drop (R.applied - R.line.base).toNat⟩ := by
   unfold PLine.drop;split
   ·rename_i h7; have h6 := h8.1; unfold PLine.drop at h6; rw [if_pos h7] at h6; cases h6
   ·rfl
  have h1 := h.ap0; have h2 := h.ap1; have h3 := h.cm;have h4 : R.line.last = R.line.base + (R.line.l.length : Int) := rfl;refine ⟨h.n1, h.n7, h.me0, h.men, h.bt0, h.bt1, h.bf0, h.bf1, hg, ?_, h2, ?_, h.tk0, h.tk1, h.v7, h.m7, h.x7, h.vs, h.mss, h.xs, h.role0, h.role2, h.rb, h8.2⟩
  ·show (R.line.drop R.applied).1.base ≤ R.applied;rw [hdr]; exact Int.le_refl _
  ·show R.commit ≤ (R.line.drop R.applied).1.last;rw [hdr];show R.commit ≤ R.applied + ((R.line.l.drop (R.applied - R.line.base).toNat).length : Int)
   simp; omega
theorem ok_jump (h : R.Ok) : R.jump.1.Ok := by
 unfold PRaft.jump;split
 ·exact ⟨h.n1, h.n7, h.me0, h.men, h.bt0, h.bt1, h.bf0, h.bf1, h.line, h.ap0, h.ap1, h.cm, h.tk0, h.tk1, h.v7, h.m7, h.x7, h.vs, h.mss, h.xs, h.role0, h.role2, h.rb, h.st⟩
 ·exact h
theorem isWho_6 {f : Int} (h : isWho f = true) : 0 ≤ f ∧ f ≤ 6 := by simp [isWho] at h; omega
theorem ok_follows (h : R.Ok) (f : Int) (x : PLet) : (R.follows f x).1.Ok := by
 unfold PRaft.follows;split
 ·exact ok_post h _ _
 ·split
  ·exact h
  ·exact (h.roled (r := 0) (l := f) (by omega) (by omega) (fun h => absurd rfl h)).tick0 (k := 0) (by omega) (by omega)
theorem join_spec {x : PLine} (h : x.Good) (prev term : Int) (its : List PItem) :
  ((x.join prev term its) = (x, 0, false)) ∨
  ((x.join prev term its) = (x, 0, true) ∧ 0 ≤ prev ∧ prev ≤ x.last ∧ prev + its.length ≤ x.last ∧ (x.base ≤ prev → x.tm prev = term) ∧ ∀ m, m < its.length → (prev + 1 + m ≤ x.base ∨ x.tm (prev + 1 + m) = (its.getD m (0, [])).1)) ∨
  (∃ (j : Int) (k : Nat), (x.join prev term its) = ({ x with l := x.l.take (j - x.base - 1).toNat ++ its.drop k }, j, true) ∧ 0 ≤ prev ∧ prev ≤ x.last ∧ j = prev + 1 + k ∧ k < its.length ∧ x.base < j ∧ j ≤ x.last + 1 ∧ (x.base ≤ prev → x.tm prev = term) ∧
   x.tm j ≠ (its.getD k (0, [])).1 ∧ (∀ m, m < k → (prev + 1 + m ≤ x.base ∨ x.tm (prev + 1 + m) = (its.getD m (0, [])).1)) ∧ (∀ it ∈ its, rightI it = true) ∧ ({ x with l := x.l.take (j - x.base - 1).toNat ++ its.drop k } : PLine).last = prev + its.length) := by
 unfold PLine.join;split
 ·exact .inl rfl
 ·rename_i h1
  have hr : ∀ it ∈ its, rightI it = true := fun it hit => by
   cases hh : rightI it with
   | true => rfl
   | false => exact absurd (.inr (.inr (List.any_eq_true.2 ⟨it, hit, by simp [hh]⟩))) h1
  have hin : ∀ (m : Nat) (i : Int), m < its.length → x.tm i = (its.getD m (0, [])).1 → i ≤ x.last := fun m i hm he => by
   have h9 := ((rightI_iff _).1 (hr _ (List.getElem_mem hm))).1;rw [getD_in hm] at he;exact ((h.tm_ge i).1 (by rw [he]; exact h9)).2
  have hbl : x.base ≤ x.last := by show x.base ≤ x.base + (x.l.length : Int); omega
  split
  ·exact .inl rfl
  ·rename_i h2
   have hpt : x.base ≤ prev → x.tm prev = term := fun hb => by
    by_cases h9 : x.tm prev = term
    ·exact h9
    ·exact absurd ⟨hb, h9⟩ h2
   split
   ·rename_i h3
    have h4 := PLine.diff_none h3;refine .inr (.inl ⟨rfl, by omega, by omega, ?_, hpt, h4⟩);by_cases h0 : its.length = 0
    ·omega
    ·have h5 := h4 (its.length - 1) (by omega);rcases h5 with h5 | h5
     ·omega
     ·have := hin _ _ (by omega) h5;omega
   ·rename_i j r h3
    obtain ⟨k, hk, hj, hrr, hbj, hne, hm⟩ := PLine.diff_some h3;split
    ·rename_i h5
     subst hrr;have hjl : j ≤ x.last + 1 := by
      by_cases h0 : k = 0
      ·subst h0; omega
      ·have h6 := hm (k - 1) (by omega);rcases h6 with h6 | h6
       ·omega
       ·have := hin (k - 1) _ (by omega) h6;omega
     refine .inr (.inr ⟨j, k, rfl, by omega, by omega, hj, hk, hbj, hjl, hpt, hne, hm, hr, ?_⟩);show x.base + ((x.l.take (j - x.base - 1).toNat ++ its.drop k).length : Int) = _;have hl : x.last = x.base + (x.l.length : Int) := rfl
     simp
     omega
    ·exact .inl rfl
theorem ok_sent (h : R.Ok) (f : Int) (x : PLet) : (R.sent f x).Ok := by
 unfold PRaft.sent;have hF := ok_follows h f x;generalize R.follows f x = F at hF;obtain ⟨S, b⟩ := F;have hF : S.Ok := hF;show (if b = true then S.sent1 f x else S).Ok;split
 ·unfold PRaft.sent1;simp only;have hg := hF.line.join x.a x.u x.its;have hcm := hF.cm;rcases join_spec hF.line x.a x.u x.its with e | ⟨e, hp0, hp1, hlast, -⟩ | ⟨j, k, e, hp0, hp1, hj, hk, hbj, hjl, -, -, -, -, hlast⟩
  ·rw [e];simp only;rw [if_neg (by simp)]; simp only [if_true];exact ok_post hF _ _
  ·rw [e];simp only;rw [if_neg (by simp), if_neg (by simp), if_neg (by simp)];exact ok_post (hF.commits (c := max S.commit (min x.o (x.a + x.its.length))) (by omega) (by omega)) _ _
  ·rw [e] at hg ⊢;simp only at hg ⊢;have hb0 := hF.line.b0;split
   ·exact hF
   ·rename_i h9
    rw [if_neg (by simp), if_pos (by omega)];have hjc : S.commit < j := by
     by_cases h8 : j ≤ S.commit
     ·exact absurd ⟨trivial, by omega, h8⟩ h9
     ·omega
    have h7 := hF.lined hg rfl (by rw [hlast]; omega);have h6 := (ok_noteItems h7 j).commits (c := max S.commit (min x.o (x.a + x.its.length))) (by show S.commit ≤ _; omega) (by
     show _ ≤ ({ S.line with l := S.line.l.take (j - S.line.base - 1).toNat ++ x.its.drop k } : PLine).last;rw [hlast]; omega)
    exact ok_post h6 _ _
 ·exact hF
theorem right_places {x : PLet} (h : rightL x = true) : (1 ≤ x.k ∧ x.k ≤ 5) ∧ (0 ≤ x.t ∧ x.t ≤ 1099511627776) ∧ (0 ≤ x.a ∧ x.a ≤ 1099511627776) ∧ (0 ≤ x.u ∧ x.u ≤ 1099511627776) ∧ (0 ≤ x.o ∧ x.o ≤ 1099511627776) ∧ x.its.length ≤ 16 ∧ x.b.length ≤ 65536 ∧ (∀ it ∈ x.its, rightI it = true) ∧ x = usedL x := by
 simp only [rightL, inM, Bool.and_eq_true, decide_eq_true_eq, Bool.not_eq_true', sameL_iff] at h;obtain ⟨⟨h1, h2, h3⟩, ⟨⟨h4, h5⟩, h6⟩, ⟨h7, h8⟩, h9, h10⟩ := h;refine ⟨⟨h1, h2⟩, h3, h4, h5, h6, h7, h8, fun it hit => ?_, h10⟩;cases hh : rightI it with
 | true => rfl
 | false =>
  rw [List.any_eq_false] at h9;exact absurd (by simp [hh]) (h9 it hit)
theorem giveLine_good (h : R.Ok) {x : PLet} (hr : rightL x = true) (hc : R.commit < x.a) : (R.giveLine x).Good ∧ (R.giveLine x).base = x.a ∧ x.a ≤ (R.giveLine x).last := by
 obtain ⟨-, -, ha, hu, -⟩ := right_places hr;unfold PRaft.giveLine;split
 ·rename_i h9
  have hi : ¬ R.line.tm x.a < 0 := by
   have h8 := h9.1;unfold tmIs at h8;split at h8
   ·omega
   ·cases h8
  refine ⟨h.line.drop x.a, ?_, ?_⟩
  ·unfold PLine.drop; rw [if_neg hi]
  ·unfold PLine.drop; rw [if_neg hi]; show x.a ≤ x.a + _; omega
 ·exact ⟨new_good (by rw [isNew_iff]; omega), rfl, by show x.a ≤ x.a + _; omega⟩
theorem ok_given (h : R.Ok) (f : Int) {x : PLet} (hr : rightL x = true) : (R.given f x).Ok := by
 unfold PRaft.given;have hF := ok_follows h f x;generalize R.follows f x = F at hF;obtain ⟨S, b⟩ := F;have hF : S.Ok := hF;show (if b = true then S.given1 f x else S).Ok;split
 ·unfold PRaft.given1;split
  ·exact ok_post hF _ _
  ·rename_i h9
   obtain ⟨g1, g2, g3⟩ := giveLine_good hF hr (by omega);obtain ⟨-, -, ha, hu, -, -, hb, -⟩ := right_places hr;refine ok_post (R := { S with line := S.giveLine x, commit := x.a, applied := x.a, state := x.b, jumped := true }) ?_ _ _;exact ⟨hF.n1, hF.n7, hF.me0, hF.men, hF.bt0, hF.bt1, hF.bf0, hF.bf1, g1, by show (S.giveLine x).base ≤ x.a; omega, by show x.a ≤ x.a; omega, g3, hF.tk0, hF.tk1, hF.v7, hF.m7, hF.x7, hF.vs, hF.mss, hF.xs, hF.role0, hF.role2, hF.rb, hb⟩
 ·exact hF
theorem ok_stepUp (h : R.Ok) {t : Int} (h1 : t ≤ 1099511627776) : (R.stepUp t).Ok := by
 unfold PRaft.stepUp;split
 ·exact (ok_noteBallot (h.ballot (t := t) (f := -1) (by omega) h1 (by omega) (by omega))).roled (r := 0) (l := -1) (by omega) (by omega) (fun h => absurd rfl h)
 ·exact h
theorem stepUp_eq (R : PRaft) (t : Int) : (R.stepUp t).n = R.n ∧ (R.stepUp t).me = R.me := by
 unfold PRaft.stepUp; split <;> exact ⟨rfl, rfl⟩
end
end Go.Proofs.YtogcnfhmcpkdcaaGreat
