/-
  The plain law of a group of one: what a replica alone does, and what is collected of it. No walk.
  The plain law of a group of one: ticks, proposals, compacting, beginning anew. No walk.
  Walks of a group of one: a step (all tick; a proposal).
-/
import Derived.Test.YtogcnfhmcpkdcaaGreatGrW4
import Derived.Test.YtogcnfhmcpkdcaaGreatRaftM6
import Derived.Deep.QuietTactic
import Derived.BigQuiet
namespace Go.Proofs.YtogcnfhmcpkdcaaGreat
open Go.RowKit
set_option linter.unusedVariables false
set_option linter.unusedSimpArgs false

section
variable {R R' : PRaft} {G : PGroup} {m c : Nat}
theorem others_al {f : PRaft → Int → PRaft} (hn : R.n = 1) (hm : R.me = 0) : R.others f = R := by
  unfold PRaft.others
  rw [hn]
  show othersFrom f 1 0 R = R
  unfold othersFrom
  rw [if_pos hm.symm]
  rfl
theorem agreed_al (x : Int) : agreed [x] = x := by
  unfold agreed agreedOk
  rw [if_pos (by simp)]
  simp [sortedI]
theorem look_al (hok : R.Ok) (hn : R.n = 1) (hm : R.me = 0) (ht : (tmIs R.line R.line.last).1 = R.bt) (hc : R.commit < R.line.last) : ∃ ms, R.look = { R with mat := ms, commit := R.line.last } := by
  refine ⟨R.mat.set 0 R.line.last, ?_⟩
  have h1 : agreed ((R.mat.set R.me.toNat R.line.last).take R.n.toNat) = R.line.last := by
    rw [hn, hm]
    have h7 := hok.m7
    cases hmm : R.mat with
    | nil => rw [hmm] at h7; cases h7
    | cons y l => exact agreed_al _
  unfold PRaft.look
  simp only
  rw [h1, if_pos ⟨hc, ht⟩, hm]
  rfl
theorem tmIs_snoc {x : PLine} (hg : x.Good) (it : PItem) (h0 : 0 ≤ it.1) : (tmIs ({ x with l := x.l ++ [it] } : PLine) (x.last + 1)).1 = it.1 := by
  have hl : x.last = x.base + (x.l.length : Int) := rfl
  have h1 : ({ x with l := x.l ++ [it] } : PLine).tm (x.last + 1) = it.1 := by
    unfold PLine.tm
    rw [if_neg (by show ¬ (x.last + 1 = x.base); omega), if_neg (by show ¬ (x.last + 1 < x.base ∨ x.base + ((x.l ++ [it]).length : Int) < x.last + 1); simp; omega)]
    show ((x.l ++ [it]).getD (x.last + 1 - x.base - 1).toNat (0, [])).1 = _
    rw [show (x.last + 1 - x.base - 1).toNat = x.l.length by omega, List.getD_eq_getElem?_getD, List.getElem?_append_right (Nat.le_refl _)]
    simp
  unfold tmIs
  rw [h1, if_pos h0]
theorem last_snoc (x : PLine) (it : PItem) : ({ x with l := x.l ++ [it] } : PLine).last = x.last + 1 := by
  show x.base + ((x.l ++ [it]).length : Int) = x.base + (x.l.length : Int) + 1
  simp; omega
theorem fits_room {x : PLine} (h1 : x.l.length < 4096) (h2 : x.last < 1099511627776) : fitsB x ((x.l.length : Int) + 1) = true := by
  have hl : x.last = x.base + (x.l.length : Int) := rfl
  unfold fitsB
  simp only [Bool.and_eq_true, decide_eq_true_eq]
  omega
/-- a replica alone that stands for leader leads at once -/
theorem stand_one (hok : R.Ok) (hn : R.n = 1) (hm : R.me = 0) (hb : R.bt < 1099511627776) (h1 : R.line.l.length < 4096) (h2 : R.line.last < 1099511627776) :
    ∃ vs ms xs nw, R.stand = { R with ticks := 0, bt := R.bt + 1, bf := 0, role := 2, lead := 0, votes := vs, mat := ms, nxt := xs, commit := R.line.last + 1, line := { R.line with l := R.line.l ++ [(R.bt + 1, [])] }, news := nw } := by
  have hb0 := hok.bt0
  have hcm := hok.cm
  have e0 : R.stand = R.stand0.count 0 := by
    unfold PRaft.stand
    rw [if_neg (by omega), others_al (R := R.stand0) hn hm, hm]
  obtain ⟨S, hS⟩ : ∃ S : PRaft, S = { R.stand0 with votes := [1, 0, 0, 0, 0, 0, 0] } := ⟨_, rfl⟩
  have e1 : R.stand0.count 0 = S.goLead := by
    unfold PRaft.count
    simp only
    rw [if_pos (by show enough R.n ≤ sumI [1, 0, 0, 0, 0, 0, 0]; rw [hn]; decide), hS]
    rfl
  have hSok : S.Ok := by
    rw [hS]
    exact (ok_stand0 hok hb).voted (v := [1, 0, 0, 0, 0, 0, 0]) rfl (by decide)
  have ha : R.line.add (R.bt + 1, []) = ({ R.line with l := R.line.l ++ [(R.bt + 1, [])] }, R.line.last + 1) := addIs ((rightI_iff _).2 ⟨by show 0 ≤ R.bt + 1; omega, by show R.bt + 1 ≤ _; omega, by simp⟩) (fits_room h1 h2)
  have hb9 := hok.line.b0
  have hll : R.line.last = R.line.base + (R.line.l.length : Int) := rfl
  obtain ⟨T, hT⟩ : ∃ T : PRaft, T = S.lead1 := ⟨_, rfl⟩
  have hTok : T.Ok := by rw [hT]; exact ok_lead1 hSok (by rw [hS]; show 1 ≤ R.bt + 1; omega)
  have e3 : ∃ nw, T = { S.lead0 with line := { R.line with l := R.line.l ++ [(R.bt + 1, [])] }, news := nw } := by
    have h9 : S.lead0.add (S.bt, []) = ({ S.lead0 with line := { R.line with l := R.line.l ++ [(R.bt + 1, [])] } }, R.line.last + 1) := by
      unfold PRaft.add
      rw [hS]
      show (({ (_ : PRaft) with line := (R.line.add (R.bt + 1, [])).1 } : PRaft), (R.line.add (R.bt + 1, [])).2) = _
      rw [ha]
    rw [hT]
    unfold PRaft.lead1
    simp only
    rw [h9, if_pos (by show 0 < R.line.last + 1; omega)]
    exact ⟨_, rfl⟩
  obtain ⟨nw, hTe⟩ := e3
  obtain ⟨ms, hms⟩ := look_al hTok (by rw [hTe, hS]; exact hn) (by rw [hTe, hS]; exact hm) (by
    rw [hTe, hS]
    show (tmIs ({ R.line with l := R.line.l ++ [(R.bt + 1, [])] } : PLine) ({ R.line with l := R.line.l ++ [(R.bt + 1, [])] } : PLine).last).1 = R.bt + 1
    rw [last_snoc, tmIs_snoc hok.line _ (by show 0 ≤ R.bt + 1; omega)]) (by
    rw [hTe, hS]
    show R.commit < ({ R.line with l := R.line.l ++ [(R.bt + 1, [])] } : PLine).last
    rw [last_snoc]; omega)
  have e4 : S.goLead = T.look := by
    unfold PRaft.goLead
    rw [← hT]
    exact others_al (R := T.look) (by rw [hms, hTe, hS]; exact hn) (by rw [hms, hTe, hS]; exact hm)
  have hlast : T.line.last = R.line.last + 1 := by rw [hTe]; exact last_snoc _ _
  rw [e0, e1, e4, hms, hlast, hTe, hS]
  refine ⟨[1, 0, 0, 0, 0, 0, 0], ms, List.replicate 7 (R.line.last + 1), nw, ?_⟩
  show ({ R with ticks := 0, bt := R.bt + 1, bf := R.me, role := 2, lead := R.me, votes := [1, 0, 0, 0, 0, 0, 0], mat := ms, nxt := List.replicate 7 (R.line.last + 1), commit := R.line.last + 1, line := { R.line with l := R.line.l ++ [(R.bt + 1, [])] }, news := nw } : PRaft) = _
  rw [hm]
theorem tick_lead (hn : R.n = 1) (hm : R.me = 0) (hr : R.role = 2) : ∃ k, R.tick = { R with ticks := k } := by
  unfold PRaft.tick
  simp only
  split
  · rw [others_al (R := { R with ticks := 0 }) hn hm]
    exact ⟨0, rfl⟩
  · rw [if_neg (by omega)]
    exact ⟨_, rfl⟩
theorem tick_wait (hm : R.me = 0) (hr : R.role ≠ 2) (hk : R.ticks + 1 < 20) : R.tick = { R with ticks := R.ticks + 1 } := by
  unfold PRaft.tick
  simp only
  rw [if_neg (by omega), if_neg (by omega)]
theorem tick_stand (hm : R.me = 0) (hr : R.role ≠ 2) (hk : 20 ≤ R.ticks + 1) : R.tick = R.stand := by
  unfold PRaft.tick
  simp only
  rw [if_neg (by omega), if_pos ⟨hr, by omega⟩]
  unfold PRaft.stand
  simp only
  rfl
theorem propose_one (hok : R.Ok) (hn : R.n = 1) (hm : R.me = 0) (hr : R.role = 2) {b : List UInt8} (hb1 : 1 ≤ b.length) (hb2 : b.length ≤ 50) (h1 : R.line.l.length < 4096) (h2 : R.line.last < 1099511627776) :
    ∃ ms nw, R.propose b = ({ R with mat := ms, commit := R.line.last + 1, line := { R.line with l := R.line.l ++ [(R.bt, b)] }, news := nw }, R.line.last + 1, 0) := by
  have hb0 := hok.bt0
  have hb3 := hok.bt1
  have hcm := hok.cm
  have hb9 := hok.line.b0
  have hll : R.line.last = R.line.base + (R.line.l.length : Int) := rfl
  have ha : R.line.add (R.bt, b) = ({ R.line with l := R.line.l ++ [(R.bt, b)] }, R.line.last + 1) := addIs ((rightI_iff _).2 ⟨hb0, hb3, by show b.length ≤ 8192; omega⟩) (fits_room h1 h2)
  have h9 : R.add (R.bt, b) = ({ R with line := { R.line with l := R.line.l ++ [(R.bt, b)] } }, R.line.last + 1) := by
    unfold PRaft.add; rw [ha]
  obtain ⟨T, hT⟩ : ∃ T : PRaft, T = ({ R with line := { R.line with l := R.line.l ++ [(R.bt, b)] } } : PRaft).noteItems (R.line.last + 1) := ⟨_, rfl⟩
  have hTok : T.Ok := by
    rw [hT]
    have h8 := ok_noteItems (ok_add hok (R.bt, b)) (R.line.last + 1)
    rw [h9] at h8
    exact h8
  obtain ⟨ms, hms⟩ := look_al hTok (by rw [hT]; exact hn) (by rw [hT]; exact hm) (by
    rw [hT]
    show (tmIs ({ R.line with l := R.line.l ++ [(R.bt, b)] } : PLine) ({ R.line with l := R.line.l ++ [(R.bt, b)] } : PLine).last).1 = R.bt
    rw [last_snoc, tmIs_snoc hok.line _ hb0]) (by
    rw [hT]
    show R.commit < ({ R.line with l := R.line.l ++ [(R.bt, b)] } : PLine).last
    rw [last_snoc]; omega)
  have hlast : T.line.last = R.line.last + 1 := by rw [hT]; exact last_snoc _ _
  have e4 : T.look.others PRaft.send = T.look := others_al (R := T.look) (by rw [hms, hT]; exact hn) (by rw [hms, hT]; exact hm)
  unfold PRaft.propose
  rw [if_neg (by omega), if_neg (by omega), if_neg (by omega)]
  simp only
  rw [h9, if_neg (by show ¬ (R.line.last + 1 = 0); omega)]
  simp only
  rw [← hT, e4, hms, hlast, hT]
  exact ⟨ms, _, rfl⟩

/-- a group of one at rest: behind so many steps -/
structure Al (G : PGroup) (R : PRaft) (m c : Nat) : Prop where
  rs : G.rs = [R]
  ats : G.ats = [R.applied]
  bag : G.bag = []
  right : G.right = true
  sl : G.seen.length = m
  wl : G.wh.length = m
  mc : m ≤ c
  ok : R.Ok
  n1 : R.n = 1
  out : R.out = []
  jp : R.jumped = false
  nw : R.news = []
  last : R.line.last = m
  cm : R.commit = R.applied
  ag : ∀ (k : Nat) (x : PItem), G.seen[k]? = some x → R.line.base ≤ k → R.item ((k + 1 : Nat) : Int) = x
  led : ∀ x ∈ G.led, x.2 = 0
  ll : G.led.length ≤ c
  sz : (putItems R.line.l).length ≤ 70 * c
  st : ∃ h ns, G.hd = [h] ∧ G.nt = [ns] ∧ ((loadH (PRaft.new 0 1) h).bind fun S => S.loads ns) = some R.bare ∧ ns.length ≤ 4097 * c
/-- what collect wants of a group -/
structure Col (G : PGroup) (i : Nat) (R : PRaft) : Prop where
  hR : G.rs[i]? = some R
  ok : R.Ok
  r : G.right = true
  j : R.jumped = false
  out : R.out = []
  nl : (G.nt.getD i []).length ≤ 10000000
  nw : R.news.length ≤ 10000000
  il : i < G.nt.length
  at_ : G.ats[i]? = some R.applied
  ap : R.applied ≤ G.seen.length
  sl : G.seen.length ≤ 10000
  cm : R.commit ≤ 10000
  wl : G.wh.length = G.seen.length
  ag : ∀ (k : Nat) (x : PItem), G.seen[k]? = some x → R.applied ≤ k → (k : Int) < R.commit → R.item ((k + 1 : Nat) : Int) = x
  ll : G.led.length ≤ 10000
  ps : G.rs.length ≤ 7
  led : R.role = 2 → ∀ x ∈ G.led, x.1 = R.bt → x.2 = i
  seen : R.role = 2 → ∀ (k : Nat) (x : PItem) (t : Int), G.seen[k]? = some x → G.wh[k]? = some t → t < R.bt → R.line.base < (k : Int) + 1 → (k : Int) + 1 ≤ R.line.last ∧ R.item ((k : Int) + 1) = x
theorem Al.me (h : Al G R m c) : R.me = 0 := by
  have h1 := h.ok.me0; have h2 := h.ok.men; have h3 := h.n1; omega
theorem Al.base (h : Al G R m c) : 0 ≤ R.line.base ∧ R.line.base ≤ R.applied ∧ R.applied ≤ m := by
  have h1 := h.ok.line.b0; have h2 := h.ok.ap0; have h3 := h.ok.cm; have h4 := h.cm; have h5 := h.last; omega
/-- an act of the replica alone: no step has been collected yet -/
structure Ad (R R' : PRaft) (m : Nat) : Prop where
  ok : R'.Ok
  n1 : R'.n = 1
  out : R'.out = []
  jp : R'.jumped = false
  ns : R'.news.length ≤ 4097
  tell : R.bare.loads R'.news = some R'.bare
  base : R'.line.base = R.line.base
  l : ∃ x, R'.line.l = R.line.l ++ x ∧ x.length ≤ 1
  ap : R'.applied = R.applied
  cm : R'.commit = R'.line.last ∨ (R'.line.last = m ∧ R'.commit = R.commit)
  sz : (putItems R'.line.l).length ≤ (putItems R.line.l).length + 70
theorem item_app {R R' : PRaft} {x : List PItem} (hb : R'.line.base = R.line.base) (hl : R'.line.l = R.line.l ++ x) {i : Int} (h0 : R.line.base < i) (h1 : i ≤ R.line.last) : R'.item i = R.item i := by
  have e1 : R.line.last = R.line.base + (R.line.l.length : Int) := rfl
  have e2 : R'.line.last = R'.line.base + (R'.line.l.length : Int) := rfl
  rw [hl, List.length_append] at e2
  unfold PRaft.item
  rw [if_pos ⟨by omega, by omega⟩, if_pos ⟨h0, h1⟩, hb, hl, List.getD_eq_getElem?_getD, List.getD_eq_getElem?_getD, List.getElem?_append_left (by omega)]
theorem led1_eq (G : PGroup) (t i : Int) : ∃ l, G.led1 t i = { G with led := l } ∧ l.length ≤ G.led.length + 1 ∧ ∀ x ∈ l, x ∈ G.led ∨ x = (t, i) := by
  unfold PGroup.led1
  split
  · exact ⟨_, rfl, by simp, fun x hx => by simpa using hx⟩
  · exact ⟨G.led, rfl, by omega, fun x hx => .inl hx⟩
theorem Al.acted (h : Al G R m c) (hc : c ≤ 1000) {m' : Nat} (a : Ad R R' m) (hm : R'.line.last = m') :
    Col { G with rs := [R'] } 0 R' ∧ Al (({ G with rs := [R'] } : PGroup).collected 0 R') { R' with news := [], applied := R'.commit } m' (c + 1) ∧ G.seen <+: (({ G with rs := [R'] } : PGroup).collected 0 R').seen ∧ m ≤ m' := by
  obtain ⟨x, hx, hx1⟩ := a.l
  obtain ⟨hb0, hb1, hb2⟩ := h.base
  have hlast := h.last
  have hsl := h.sl
  have hmc := h.mc
  have e1 : R.line.last = R.line.base + (R.line.l.length : Int) := rfl
  have e2 : R'.line.last = R'.line.base + (R'.line.l.length : Int) := rfl
  have hba := a.base
  have hxl : R'.line.l.length = R.line.l.length + x.length := by rw [hx, List.length_append]
  have hap := a.ap
  have hok := a.ok
  have hcm1 := hok.cm
  have hcm0 := hok.ap1
  have hcmc := h.cm
  have hcm := a.cm
  have hmm : m ≤ m' ∧ m' ≤ m + 1 := by omega
  obtain ⟨hd, ns, hhd, hnt, hst, hnl⟩ := h.st
  have hag : ∀ (k : Nat) (y : PItem), G.seen[k]? = some y → R.line.base ≤ k → R'.item ((k + 1 : Nat) : Int) = y := fun k y hk hbk => by
    have hkl := (List.getElem?_eq_some_iff.1 hk).1
    rw [item_app a.base hx (by omega) (by omega)]
    exact h.ag k y hk hbk
  have hne := a.ns
  refine ⟨?_, ?_⟩
  · refine ⟨rfl, a.ok, h.right, a.jp, a.out, by show (G.nt.getD 0 []).length ≤ _; rw [hnt]; show ns.length ≤ _; omega, by omega, by show 0 < G.nt.length; rw [hnt]; simp, by show G.ats[0]? = _; rw [h.ats, hap]; rfl, by show R'.applied ≤ (G.seen.length : Int); omega, by show G.seen.length ≤ _; omega, by omega, by show G.wh.length = G.seen.length; rw [h.wl, h.sl], fun k y hk h1 h2 => hag k y hk (by omega), by show G.led.length ≤ _; have := h.ll; omega, by show ([R'] : List PRaft).length ≤ 7; simp, fun _ y hy _ => h.led y hy, fun _ k y t hk ht htb hbk => ?_⟩
    have hkl : k < G.seen.length := (List.getElem?_eq_some_iff.1 hk).1
    exact ⟨by omega, by have h9 := hag k y hk (by omega); rw [← h9]; rfl⟩
  · obtain ⟨C, hC⟩ : ∃ C : Nat, R'.commit = C := ⟨R'.commit.toNat, by omega⟩
    obtain ⟨G2, hG2⟩ : ∃ G2, G2 = (({ G with rs := [R'] } : PGroup).noted 0 R').seenTo 0 { R' with news := [] } R'.commit.toNat := ⟨_, rfl⟩
    have hgl : ∃ l, ({ G with rs := [R'] } : PGroup).collected 0 R' = { G2 with led := l } ∧ l.length ≤ G.led.length + 1 ∧ ∀ y ∈ l, y ∈ G.led ∨ y = (R'.bt, 0) := by
      unfold PGroup.collected
      simp only
      rw [← hG2]
      have hlG : G2.led = G.led := by rw [hG2]; rfl
      split
      · obtain ⟨l, h1, h2, h3⟩ := led1_eq G2 R'.bt 0
        rw [hlG] at h2 h3
        exact ⟨l, h1, h2, h3⟩
      · exact ⟨G2.led, rfl, by rw [hlG]; omega, fun y hy => .inl (by rw [← hlG]; exact hy)⟩
    obtain ⟨l, hgl, hll, hle⟩ := hgl
    have hCn : R'.commit.toNat = C := by omega
    rw [hCn] at hG2
    have hseen : G2.seen = G.seen ++ (List.range (C - G.seen.length)).map (fun (q : Nat) => R'.item ((G.seen.length + q + 1 : Nat) : Int)) := by rw [hG2]; rfl
    have hwh : G2.wh = G.wh ++ List.replicate (C - G.seen.length) (({ G with rs := [R'] } : PGroup).noted 0 R').term := by rw [hG2]; rfl
    have hlen : G2.seen.length = m' := by
      rw [hseen, List.length_append, List.length_map, List.length_range]; omega
    rw [hgl]
    refine ⟨⟨?_, ?_, ?_, h.right ▸ (by rw [hG2]; rfl), hlen, ?_, by omega, ?_, a.n1, a.out, a.jp, rfl, hm, rfl, fun k y hk hbk => ?_, fun y hy => ?_, by show l.length ≤ _; have := h.ll; omega, by show (putItems R'.line.l).length ≤ _; have h8 := h.sz; have h9 := a.sz; omega, ?_⟩, ⟨_, hseen.symm⟩, hmm.1⟩
    · show G2.rs = _
      rw [hG2, hC]; rfl
    · show G2.ats = [R'.commit]
      rw [hG2, hC]
      show G.ats.set 0 (C : Int) = _
      rw [h.ats]; rfl
    · show G2.bag = []
      rw [hG2]; exact h.bag
    · show G2.wh.length = m'
      rw [hwh, List.length_append, List.length_replicate, h.wl]; omega
    · exact { a.ok with ap0 := by show R'.line.base ≤ R'.commit; omega, ap1 := Int.le_refl _ }
    · show R'.item ((k + 1 : Nat) : Int) = y
      have hk9 : G2.seen[k]? = some y := hk
      have hbk9 : R'.line.base ≤ k := hbk
      rw [hseen] at hk9
      by_cases hkl : k < G.seen.length
      · rw [List.getElem?_append_left hkl] at hk9
        exact hag k y hk9 (by omega)
      · rw [List.getElem?_append_right (by omega), List.getElem?_map] at hk9
        have hk8 : k - G.seen.length < C - G.seen.length := by
          have h9 : k < G2.seen.length := (List.getElem?_eq_some_iff.1 hk).1
          rw [hseen, List.length_append, List.length_map, List.length_range] at h9
          omega
        rw [List.getElem?_range hk8] at hk9
        have hk7 : R'.item ((G.seen.length + (k - G.seen.length) + 1 : Nat) : Int) = y := by simpa using hk9
        rw [show G.seen.length + (k - G.seen.length) + 1 = k + 1 by omega] at hk7
        exact hk7
    · rcases hle y hy with h9 | h9
      · exact h.led y h9
      · rw [h9]
    · refine ⟨hd, ns ++ R'.news, by show G2.hd = _; rw [hG2]; exact hhd, ?_, ?_, by rw [List.length_append]; omega⟩
      · show G2.nt = _
        rw [hG2]
        show G.nt.set 0 ((G.nt.getD 0 []) ++ R'.news) = _
        rw [hnt]; rfl
      · have h9 : (PRaft.bare { R' with news := [], applied := R'.commit }) = R'.bare := rfl
        rw [h9]
        cases hld : loadH (PRaft.new 0 1) hd with
        | none => rw [hld] at hst; cases hst
        | some S =>
          rw [hld] at hst
          have hst : S.loads ns = some R.bare := hst
          show S.loads (ns ++ R'.news) = _
          rw [loads_append, hst]
          exact a.tell
end
end Go.Proofs.YtogcnfhmcpkdcaaGreat

namespace Go.Proofs.YtogcnfhmcpkdcaaGreat
open Go.RowKit
set_option linter.unusedVariables false
set_option linter.unusedSimpArgs false

section
variable {R R' : PRaft} {G : PGroup} {m c : Nat} {T k : Int}
/-- the one leads, and has handed out all -/
structure Ld (T : Int) (G : PGroup) (R : PRaft) (m c : Nat) : Prop where
  al : Al G R m c
  role : R.role = 2
  bt : R.bt = T
  ap : R.applied = m
/-- the one waits -/
structure Fl (T k : Int) (G : PGroup) (R : PRaft) (m c : Nat) : Prop where
  al : Al G R m c
  role : R.role ≠ 2
  bt : R.bt = T
  tk : R.ticks = k
theorem Ad.of (h : Al G R m c) (hok : R'.Ok) (ht : Tells R R') {a b : Nat} (hg : Grows 4097 a b R R') (hb7 : b ≤ 70) (hn : R'.n = 1) (ho : R'.out = []) (hb : R'.line.base = R.line.base) (hl : ∃ x, R'.line.l = R.line.l ++ x ∧ x.length ≤ 1) (ha : R'.applied = R.applied) (hc : R'.commit = R'.line.last ∨ (R'.line.last = m ∧ R'.commit = R.commit)) : Ad R R' m := by
  obtain ⟨ns, h1, h2, h3⟩ := ht
  have hw := h.nw
  rw [hw, List.nil_append] at h1
  obtain ⟨g1, g2, g3⟩ := hg
  rw [hw] at g1
  refine ⟨hok, hn, ho, h3.trans h.jp, by simpa using g1, by rw [h1]; exact h2, hb, hl, ha, hc, by omega⟩
theorem Al.room (h : Al G R m c) (hc : c ≤ 1000) : R.line.l.length < 4096 ∧ R.line.last < 1099511627776 := by
  have h1 := h.last; have h2 := h.mc; have h3 := h.ok.line.b0
  have h4 : R.line.last = R.line.base + (R.line.l.length : Int) := rfl
  omega
theorem Ld.tick (h : Ld T G R m c) : Ad R R.tick m ∧ R.tick.line.last = m ∧ R.tick.role = 2 ∧ R.tick.bt = T ∧ R.tick.commit = m := by
  obtain ⟨k, hk⟩ := tick_lead h.al.n1 h.al.me h.role
  have hcm := h.al.cm
  have hap := h.ap
  refine ⟨Ad.of h.al (ok_tick h.al.ok) (tells_tick h.al.ok) (grows_tick h.al.ok.n7) (by omega) ?_ ?_ ?_ ?_ ?_ ?_, ?_, ?_, ?_, ?_⟩
  all_goals rw [hk]
  · exact h.al.n1
  · exact h.al.out
  · exact ⟨[], by simp, by simp⟩
  · exact .inr ⟨h.al.last, rfl⟩
  · exact h.al.last
  · exact h.role
  · exact h.bt
  · show R.commit = m; omega
theorem Fl.wait (h : Fl T k G R m c) (hk : k + 1 < 20) : Ad R R.tick m ∧ R.tick.line.last = m ∧ R.tick.role ≠ 2 ∧ R.tick.bt = T ∧ R.tick.ticks = k + 1 := by
  have hk9 := tick_wait h.al.me h.role (by have := h.tk; omega)
  have htk := h.tk
  refine ⟨Ad.of h.al (ok_tick h.al.ok) (tells_tick h.al.ok) (grows_tick h.al.ok.n7) (by omega) ?_ ?_ ?_ ?_ ?_ ?_, ?_, ?_, ?_, ?_⟩
  all_goals rw [hk9]
  · exact h.al.n1
  · exact h.al.out
  · exact ⟨[], by simp, by simp⟩
  · exact .inr ⟨h.al.last, rfl⟩
  · exact h.al.last
  · exact h.role
  · exact h.bt
  · show R.ticks + 1 = k + 1; omega
theorem Fl.stand (h : Fl T 19 G R m c) (hc : c ≤ 1000) (hT : T < 1099511627776) : Ad R R.tick m ∧ R.tick.line.last = ((m + 1 : Nat) : Int) ∧ R.tick.role = 2 ∧ R.tick.bt = T + 1 ∧ R.tick.commit = ((m + 1 : Nat) : Int) ∧ R.tick.line.base = R.line.base := by
  have hroom := h.al.room hc
  have hst := tick_stand h.al.me h.role (by have := h.tk; omega)
  obtain ⟨vs, ms, xs, nw, he⟩ := stand_one h.al.ok h.al.n1 h.al.me (by have := h.bt; omega) hroom.1 hroom.2
  have hlast := h.al.last
  have hll : ({ R.line with l := R.line.l ++ [(R.bt + 1, [])] } : PLine).last = R.line.last + 1 := last_snoc _ _
  refine ⟨Ad.of h.al (ok_tick h.al.ok) (tells_tick h.al.ok) (grows_tick h.al.ok.n7) (by omega) ?_ ?_ ?_ ?_ ?_ ?_, ?_, ?_, ?_, ?_, ?_⟩
  all_goals rw [hst, he]
  · exact h.al.n1
  · exact h.al.out
  · exact ⟨_, rfl, by simp⟩
  · exact .inl (by show R.line.last + 1 = ({ R.line with l := R.line.l ++ [(R.bt + 1, [])] } : PLine).last; rw [hll])
  · show ({ R.line with l := R.line.l ++ [(R.bt + 1, [])] } : PLine).last = _; rw [hll]; omega
  · show R.bt + 1 = T + 1; rw [h.bt]
  · show R.line.last + 1 = _; omega
theorem Ld.propose (h : Ld T G R m c) (hc : c ≤ 1000) {b : List UInt8} (hb1 : 1 ≤ b.length) (hb2 : b.length ≤ 50) : Ad R (R.propose b).1 m ∧ (R.propose b).1.line.last = ((m + 1 : Nat) : Int) ∧ (R.propose b).1.role = 2 ∧ (R.propose b).1.bt = T ∧ (R.propose b).1.commit = ((m + 1 : Nat) : Int) ∧ (R.propose b).1.line.base = R.line.base ∧ (R.propose b).1.item ((m + 1 : Nat) : Int) = (T, b) := by
  have hroom := h.al.room hc
  obtain ⟨ms, nw, he⟩ := propose_one h.al.ok h.al.n1 h.al.me h.role hb1 hb2 hroom.1 hroom.2
  have hlast := h.al.last
  have hb0 := h.al.base
  have hl0 : R.line.last = R.line.base + (R.line.l.length : Int) := rfl
  have hll : ({ R.line with l := R.line.l ++ [(R.bt, b)] } : PLine).last = R.line.last + 1 := last_snoc _ _
  have hgr := grows_propose h.al.ok.n7 b
  refine ⟨Ad.of h.al (ok_propose h.al.ok b) (tells_propose h.al.ok b) (Grows.le hgr (a' := 4097) (b' := 7) (c' := 18 + b.length)) (by omega) ?_ ?_ ?_ ?_ ?_ ?_, ?_, ?_, ?_, ?_, ?_, ?_⟩
  all_goals rw [he]
  · exact h.al.n1
  · exact h.al.out
  · exact ⟨_, rfl, by simp⟩
  · exact .inl (by show R.line.last + 1 = ({ R.line with l := R.line.l ++ [(R.bt, b)] } : PLine).last; rw [hll])
  · show ({ R.line with l := R.line.l ++ [(R.bt, b)] } : PLine).last = _; rw [hll]; omega
  · exact h.role
  · exact h.bt
  · show R.line.last + 1 = _; omega
  · unfold PRaft.item
    have e9 : ({ R with mat := ms, commit := R.line.last + 1, line := { R.line with l := R.line.l ++ [(R.bt, b)] }, news := nw } : PRaft).line = { R.line with l := R.line.l ++ [(R.bt, b)] } := rfl
    rw [e9, hll, if_pos ⟨by show R.line.base < _; omega, by omega⟩]
    show (R.line.l ++ [(R.bt, b)]).getD (((m + 1 : Nat) : Int) - R.line.base - 1).toNat (0, []) = _
    rw [show (((m + 1 : Nat) : Int) - R.line.base - 1).toNat = R.line.l.length by omega, List.getD_eq_getElem?_getD, List.getElem?_append_right (Nat.le_refl _), h.bt]
    simp
/-- nothing was done -/
theorem Al.idle (h : Al G R m c) : Ad R R m :=
  Ad.of h h.ok (.refl R) ((Grows.refl R).le (a' := 4097) (b' := 0) (c' := 0)) (by omega) h.n1 h.out rfl ⟨[], by simp, by simp⟩ rfl (.inr ⟨h.last, rfl⟩)
theorem keep_self {R : PRaft} (h : R.Ok) (hs : (putItems R.line.l).length ≤ 800000) : loadH (PRaft.new R.me R.n) R.head = some R.bare := by
  unfold loadH
  rw [if_neg (head_ne R), head_reads (B := 800000) ⟨h.bt0, h.bt1, h.bf0, h.bf1, h.line, h.st, hs⟩ (by omega)]
  rfl
theorem keep_al {R : PRaft} (h : R.Ok) (hs : (putItems R.line.l).length ≤ 800000) (hn : R.n = 1) (hm : R.me = 0) : ((loadH (PRaft.new 0 1) R.head).bind fun S => S.loads []) = some R.bare := by
  have h9 := keep_self h hs
  rw [hn, hm] at h9
  rw [h9]; rfl
theorem Al.sizes (h : Al G R m c) (hc : c ≤ 1000) : (putItems R.line.l).length ≤ 800000 ∧ R.line.put.length ≤ 900000 ∧ R.state.length ≤ 70000 := by
  have h1 := h.sz
  have h2 : R.Fit 800000 := ⟨h.ok.bt0, h.ok.bt1, h.ok.bf0, h.ok.bf1, h.ok.line, h.ok.st, by omega⟩
  have h3 := h2.put
  have h4 := h.ok.st
  omega
theorem Ld.compact (h : Ld T G R m c) (hc : c ≤ 1000) (hb : R.line.base < m) {s : List UInt8} (hs : s.length ≤ 65536) :
    (R.compact s).2 = true ∧ Ld T { G with rs := [(R.compact s).1], hd := [(R.compact s).1.head], nt := [[]] } (R.compact s).1 m c ∧ (R.compact s).1.line.base = m := by
  have hok := ok_compact h.al.ok s
  have hb0 := h.al.base
  have hap := h.ap
  have hlast := h.al.last
  have hl0 : R.line.last = R.line.base + (R.line.l.length : Int) := rfl
  have htm := (h.al.ok.line.tm_ge R.applied).2 ⟨by omega, by omega⟩
  have hdr : R.line.drop R.applied = (⟨R.applied, R.line.tm R.applied, R.line.l.drop (R.applied - R.line.base).toNat⟩, true) := by
    unfold PLine.drop; rw [if_neg (by omega)]
  have he : R.compact s = ({ R with line := ⟨R.applied, R.line.tm R.applied, R.line.l.drop (R.applied - R.line.base).toNat⟩, state := s }, true) := by
    unfold PRaft.compact
    rw [hdr, if_neg (by
      intro h9
      rcases h9 with h9 | h9 | h9
      · omega
      · omega
      · cases h9)]
  rw [he] at hok ⊢
  have hok : ({ R with line := ⟨R.applied, R.line.tm R.applied, R.line.l.drop (R.applied - R.line.base).toNat⟩, state := s } : PRaft).Ok := hok
  have hsz : (putItems (R.line.l.drop (R.applied - R.line.base).toNat)).length ≤ 70 * c := by
    have h1 := putItems_drop R.line.l (R.applied - R.line.base).toNat
    have h2 := h.al.sz
    omega
  have hks := keep_al hok (by show (putItems (R.line.l.drop (R.applied - R.line.base).toNat)).length ≤ _; omega) h.al.n1 h.al.me
  refine ⟨rfl, ⟨⟨rfl, h.al.ats, h.al.bag, h.al.right, h.al.sl, h.al.wl, h.al.mc, hok, h.al.n1, h.al.out, h.al.jp, h.al.nw, ?_, h.al.cm, fun k x hk hbk => ?_, h.al.led, h.al.ll, hsz, ⟨_, [], rfl, rfl, ?_, by simp⟩⟩, h.role, h.bt, hap⟩, hap⟩
  · show R.applied + ((R.line.l.drop (R.applied - R.line.base).toNat).length : Int) = m
    rw [List.length_drop]; omega
  · exfalso
    have h1 : k < G.seen.length := (List.getElem?_eq_some_iff.1 hk).1
    have h2 := h.al.sl
    have h3 : R.applied ≤ (k : Int) := hbk
    omega
  · exact hks
theorem Al.load (h : Al G R m c) : ∃ hd ns, G.hd = [hd] ∧ G.nt = [ns] ∧ loadP 0 1 hd ns = some R.bare.base ∧ Fl R.bt 0 { G with rs := [R.bare.base], ats := [R.bare.base.line.base] } R.bare.base m c := by
  obtain ⟨hd, ns, h1, h2, h3, h4⟩ := h.st
  have hn := h.n1
  have hm := h.me
  have h0 := ok_new (me := 0) (n := 1) (by omega) (by omega) (by omega) (by omega)
  have hb0 := h.base
  have hlast := h.last
  have hl0 : R.line.last = R.line.base + (R.line.l.length : Int) := rfl
  have hok := h.ok
  have heq : R.bare.base = { PRaft.new 0 1 with bt := R.bt, bf := R.bf, line := R.line, state := R.state, commit := R.line.base, applied := R.line.base } := by
    unfold PRaft.base PRaft.bare
    rw [hn, hm]
  have hbok : R.bare.base.Ok := by
    rw [heq]
    exact { h0 with bt0 := hok.bt0, bt1 := hok.bt1, bf0 := hok.bf0, bf1 := hok.bf1, line := hok.line, ap0 := Int.le_refl _, ap1 := Int.le_refl _, cm := by show R.line.base ≤ R.line.last; omega, rb := fun h9 => absurd rfl h9, st := hok.st }
  refine ⟨hd, ns, h1, h2, ?_, ⟨⟨rfl, rfl, h.bag, h.right, h.sl, h.wl, h.mc, hbok, hn, rfl, rfl, rfl, h.last, rfl, h.ag, h.led, h.ll, h.sz, ⟨hd, ns, h1, h2, h3, h4⟩⟩, by show (0 : Int) ≠ 2; decide, rfl, rfl⟩⟩
  unfold loadP
  cases hld : loadH (PRaft.new 0 1) hd with
  | none => rw [hld] at h3; cases h3
  | some S =>
    rw [hld] at h3
    have h3 : S.loads ns = some R.bare := h3
    show (S.loads ns).map PRaft.base = _
    rw [h3]; rfl
theorem fl_made : Fl 0 0 (PGroup.made 1) (PRaft.new 0 1) 0 0 := by
  have h0 := ok_new (me := 0) (n := 1) (by omega) (by omega) (by omega) (by omega)
  have hks := keep_al h0 (by decide) rfl rfl
  refine ⟨⟨rfl, rfl, rfl, rfl, rfl, rfl, by omega, h0, rfl, rfl, rfl, rfl, rfl, rfl, fun k x hk => ?_, fun x hx => ?_, by decide, by decide, ⟨_, [], rfl, rfl, ?_, by simp⟩⟩, by decide, rfl, rfl⟩
  · have h9 : ([] : List PItem)[k]? = some x := hk
    simp at h9
  · have h9 : x ∈ ([] : List (Int × Int)) := hx
    cases h9
  · exact hks
/-- one more tick of waiting, collected -/
theorem Fl.next (h : Fl T k G R m c) (hk : k + 1 < 20) (hc : c ≤ 1000) : Col { G with rs := [R.tick] } 0 R.tick ∧ Fl T (k + 1) (({ G with rs := [R.tick] } : PGroup).collected 0 R.tick) { R.tick with news := [], applied := R.tick.commit } m (c + 1) := by
  obtain ⟨h1, h2, h3, h4, h5⟩ := h.wait hk
  obtain ⟨h6, h7, -, -⟩ := h.al.acted hc h1 h2
  exact ⟨h6, h7, h3, h4, h5⟩
/-- the tick in which it stands, collected -/
theorem Fl.leads (h : Fl T 19 G R m c) (hc : c ≤ 1000) (hT : T < 1099511627776) : Col { G with rs := [R.tick] } 0 R.tick ∧ Ld (T + 1) (({ G with rs := [R.tick] } : PGroup).collected 0 R.tick) { R.tick with news := [], applied := R.tick.commit } (m + 1) (c + 1) := by
  obtain ⟨h1, h2, h3, h4, h5, -⟩ := h.stand hc hT
  obtain ⟨h6, h7, -, -⟩ := h.al.acted hc h1 h2
  exact ⟨h6, h7, h3, h4, h5⟩
/-- a proposal, collected -/
theorem Ld.proposed (h : Ld T G R m c) (hc : c ≤ 1000) {b : List UInt8} (hb1 : 1 ≤ b.length) (hb2 : b.length ≤ 50) : Col { G with rs := [(R.propose b).1] } 0 (R.propose b).1 ∧ Ld T (({ G with rs := [(R.propose b).1] } : PGroup).collected 0 (R.propose b).1) { (R.propose b).1 with news := [], applied := (R.propose b).1.commit } (m + 1) (c + 1) ∧ (({ G with rs := [(R.propose b).1] } : PGroup).collected 0 (R.propose b).1).seen[m]? = some (T, b) ∧ (R.propose b).1.line.base ≤ m := by
  obtain ⟨h1, h2, h3, h4, h5, h6, h7⟩ := h.propose hc hb1 hb2
  obtain ⟨g1, g2, -, -⟩ := h.al.acted hc h1 h2
  refine ⟨g1, ⟨g2, h3, h4, h5⟩, ?_, by have h9 := h.al.base; omega⟩
  have hl := g2.sl
  obtain ⟨x, hx⟩ : ∃ x, (({ G with rs := [(R.propose b).1] } : PGroup).collected 0 (R.propose b).1).seen[m]? = some x := ⟨_, List.getElem?_eq_getElem (by omega)⟩
  have h8 := g2.ag m x hx (by
    have h9 := h.al.base
    show (R.propose b).1.line.base ≤ _
    omega)
  have h9 : (R.propose b).1.item ((m + 1 : Nat) : Int) = x := h8
  rw [hx, ← h9, h7]
/-- a compacting, collected -/
theorem Ld.compacted (h : Ld T G R m c) (hc : c ≤ 1000) (hb : R.line.base < m) {s : List UInt8} (hs : s.length ≤ 65536) : (R.compact s).2 = true ∧ (R.compact s).1.line.put.length ≤ 900000 ∧ (R.compact s).1.state.length ≤ 70000 ∧ (R.compact s).1.news = [] ∧
    Col { G with rs := [(R.compact s).1], hd := [(R.compact s).1.head], nt := [[]] } 0 (R.compact s).1 ∧ Ld T (({ G with rs := [(R.compact s).1], hd := [(R.compact s).1.head], nt := [[]] } : PGroup).collected 0 (R.compact s).1) { (R.compact s).1 with news := [], applied := (R.compact s).1.commit } m (c + 1) ∧ (R.compact s).1.line.base = m := by
  obtain ⟨h1, h2, h3⟩ := h.compact hc hb hs
  obtain ⟨g1, g2, -, -⟩ := h2.al.acted hc h2.al.idle h2.al.last
  obtain ⟨-, g4, g5⟩ := h2.al.sizes hc
  exact ⟨h1, g4, g5, h2.al.nw, g1, ⟨g2, h2.role, h2.bt, by show (R.compact s).1.commit = m; have h8 := h2.al.cm; have h9 := h2.ap; omega⟩, h3⟩
/-- a beginning anew, collected -/
theorem Al.loaded (h : Al G R m c) (hc : c ≤ 1000) : ∃ hd ns Rb, G.hd = [hd] ∧ G.nt = [ns] ∧ loadP 0 1 hd ns = some Rb ∧ Rb.news = [] ∧ Col { G with rs := [Rb], ats := [Rb.line.base] } 0 Rb ∧ Fl R.bt 0 (({ G with rs := [Rb], ats := [Rb.line.base] } : PGroup).collected 0 Rb) { Rb with news := [], applied := Rb.commit } m (c + 1) := by
  obtain ⟨hd, ns, h1, h2, h3, h4⟩ := h.load
  obtain ⟨g1, g2, -, -⟩ := h4.al.acted hc h4.al.idle h4.al.last
  exact ⟨hd, ns, _, h1, h2, h3, rfl, g1, g2, h4.role, h4.bt, h4.tk⟩
end
end Go.Proofs.YtogcnfhmcpkdcaaGreat

namespace Go.Proofs.YtogcnfhmcpkdcaaGreat
open Go.RowKit
set_option linter.unusedVariables false
set_option linter.unusedSimpArgs false

section
variable {w w' w1 : World} {B g c : Nat} {G : PGroup} {M : GMem} {i : Nat}
theorem l18collect1 {N : RMem} {p : Nat} {R : PRaft} (h : GrAt w B g i G M) (hq : M.ps[i]? = some (p, N)) (hc : Col G i R) :
    Calls Tryz.prog 27 #[.pointer (some ⟨g, 0, none⟩), .int .i64 i] w fun e w' => e = .returned (.tuple #[]) ∧ ∃ M' N', GrAt w' B g i (G.collected i R) M' ∧ M'.ps[i]? = some (p, N') ∧ N'.ps = [] ∧ Below B w w' :=
  l18collect0 h hc.hR hq hc.ok hc.r hc.j hc.out hc.nl hc.nw hc.il hc.at_ hc.ap hc.sl hc.cm hc.wl hc.ag hc.ll hc.ps hc.led hc.seen
theorem collected_len (G : PGroup) (i : Nat) (R : PRaft) : (G.collected i R).rs.length = G.rs.length := by
  unfold PGroup.collected
  simp only
  split
  · obtain ⟨l, h1, -, -⟩ := led1_eq ((G.noted i R).seenTo i { R with news := [] } R.commit.toNat) R.bt i
    rw [h1]
    show ((G.rs.set i _).set i _).length = _
    simp
  · show ((G.rs.set i _).set i _).length = _
    simp
theorem r1Pick1 (w : World) : Calls Tryz.prog 58 #[.int .i64 0, .int .i64 1] w fun e w' => e = .returned (.int .i64 0) ∧ w' = w :=
  (r1Pick 0 1 (by omega) (by omega) (by omega) w).mono fun e w' h => ⟨h.1, h.2.symm⟩
theorem r1Pick0 (w : World) : Calls Tryz.prog 58 #[.int .i64 0, .int .i64 0] w fun e w' => e = .returned (.int .i64 0) ∧ w' = w := by
  go_enter Tryz.func58, Tryz.ntmps58
  go_wp2
  go_ret
  exact ⟨rfl, rfl⟩
/-- a group of one that rests in memory, and its replica -/
structure One (w : World) (B g : Nat) (G : PGroup) (M : GMem) (p : Nat) (N : RMem) (R : PRaft) : Prop where
  gr : GrAt w B g 0 G M
  rs : G.rs = [R]
  bag : G.bag = []
  q : M.ps[0]? = some (p, N)
  ok : R.Ok
  nw : R.news = []
  out : R.out = []
theorem One.below {N : RMem} {p : Nat} {R : PRaft} (h : One w B g G M p N R) (hb : Below w.heap.size w w') : One w' B g G M p N R := ⟨h.gr.below hb, h.rs, h.bag, h.q, h.ok, h.nw, h.out⟩
theorem One.cells {N : RMem} {p : Nat} {R : PRaft} (h : One w B g G M p N R) : ∃ b, w.cell? ⟨g, 0, none⟩ = some (.slice (some ⟨b, 0, none⟩) 1 (M.rc 0)) ∧ w.cell? ⟨b, 0, none⟩ = some (.pointer (some ⟨p, 0, none⟩)) ∧ w.cell? ⟨g, 4, none⟩ = some (.slice (M.ra 4) 0 (M.rc 4)) := by
  obtain ⟨b, h1, h2, h3⟩ := h.gr.ptr h.q
  have hpl : M.ps.length = 1 := by rw [h.gr.rl, h.rs]; rfl
  have hml : M.ms.length = 0 := by have h9 := congrArg List.length h.gr.ct.bq; rw [h.bag] at h9; simpa using h9
  refine ⟨b, ?_, h2, ?_⟩
  · have h9 := h.gr.cl (i := 0) (by omega)
    rw [h9, ← h1, ← hpl]; rfl
  · have h9 := h.gr.cl (i := 4) (by omega)
    rw [h9, ← hml]; rfl
theorem One.rf {N : RMem} {p : Nat} {R : PRaft} (h : One w B g G M p N R) : RfAt w p R N := h.gr.rf 0 R (p, N) (by rw [h.rs]; rfl) h.q
theorem One.put {N N' : RMem} {p : Nat} {R R' : PRaft} (h : One w B g G M p N R) (hr : RfAt w' p R' N') (ht : RTouch p N N' w w') : GrAt w' B g 0 { G with rs := [R'] } { M with ps := M.ps.set 0 (p, N') } ∧ Below B w w' := by
  have h1 := h.gr.putRaft (by rw [h.rs]; rfl) h.q hr ht
  rw [h.rs] at h1
  exact ⟨h1, ht.below (fun k hk => h.gr.inn (.raft 0) k ⟨_, h.q, hk⟩) h.gr.bs⟩
/-- what a step comes to: what the replica did is collected -/
def StepTo (B g p : Nat) (G : PGroup) (w : World) (e : Ending) (w' : World) : Prop := e = .returned (.tuple #[]) ∧ ∃ M' N', GrAt w' B g 0 G M' ∧ M'.ps[0]? = some (p, N') ∧ N'.ps = [] ∧ Below B w w'
/-- what the drawn regions of step read of a group of one -/
structure StpS (g b0 p cap bx : Nat) (v : Value) (W : World) : Prop where
  s : g < W.heap.size
  c0 : W.cell? ⟨g, 0, none⟩ = some (.slice (some ⟨b0, 0, none⟩) 1 cap)
  cp : W.cell? ⟨b0, 0, none⟩ = some (.pointer (some ⟨p, 0, none⟩))
  d3 : W.cell? ⟨bx, 3, none⟩ = some v
theorem StpS.touch {p b0 cap bx : Nat} {v : Value} {N N' : RMem} (h : StpS g b0 p cap bx v w) (ht : RTouch p N N' w w') (h1 : ¬ N.own p g) (h2 : ¬ N.own p b0) (h3 : ¬ N.own p bx) : StpS g b0 p cap bx v w' :=
  ⟨Nat.lt_of_lt_of_le h.s ht.size, (ht.cell h.s h1).trans h.c0, (ht.cell (cell_lt9 h.cp) h2).trans h.cp, (ht.cell (cell_lt9 h.d3) h3).trans h.d3⟩
theorem StpS.below {p b0 cap bx : Nat} {v : Value} (h : StpS g b0 p cap bx v w) (hb : Below w.heap.size w w') : StpS g b0 p cap bx v w' :=
  ⟨Nat.lt_of_lt_of_le h.s hb.size, (hb.cell (p := ⟨g, 0, none⟩) h.s).trans h.c0, (hb.cell (p := ⟨b0, 0, none⟩) (cell_lt9 h.cp)).trans h.cp, (hb.cell (p := ⟨bx, 3, none⟩) (cell_lt9 h.d3)).trans h.d3⟩
theorem One.far {N : RMem} {p : Nat} {R : PRaft} (h : One w B g G M p N R) : ¬ N.own p g ∧ ∀ (j k : Nat), j < 8 → (M.ra j).map (·.block) = some k → ¬ N.own p k := by
  refine ⟨fun hk => ?_, fun j k hj hk9 hk => ?_⟩
  · have h9 := h.gr.dis (.raft 0) .g g ⟨_, h.q, hk⟩ rfl
    cases h9
  · have h9 := h.gr.dis (.raft 0) (.row j) k ⟨_, h.q, hk⟩ ⟨hj, hk9⟩
    cases h9
/-- the first cell of a row that holds one -/
theorem One.row {N : RMem} {p : Nat} {R : PRaft} (h : One w B g G M p N R) {j : Nat} (hj : j < 8) (hn : rowN G M j = 1) (hz : rowZ j = 1) : ∃ b, M.ra j = some ⟨b, 0, none⟩ ∧ w.cell? ⟨g, j, none⟩ = some (.slice (some ⟨b, 0, none⟩) 1 (M.rc j)) ∧ w.cell? ⟨b, 0, none⟩ = (rowX G M j)[0]? ∧ w.frozen? ⟨b, 0, none⟩ = false ∧ b < w.heap.size := by
  obtain ⟨b, h1, h2, h3, h4⟩ := h.gr.at_ (i := j) hj (j := 0) (by rw [hn, hz]; omega)
  refine ⟨b, h1, ?_, h2, h3, h4⟩
  have h9 := h.gr.cl (i := j) hj
  rw [h9]
  show some (Value.slice (M.ra j) (rowN G M j) (M.rc j)) = _
  rw [hn, h1]

set_option maxRecDepth 100000 in
set_option maxHeartbeats 2000000 in
theorem l18step0 {N : RMem} {p : Nat} {R : PRaft} (h : One w B g G M p N R) (hc : Col { G with rs := [R.tick] } 0 R.tick) :
    Calls Tryz.prog 24 #[.pointer (some ⟨g, 0, none⟩), .agg #[.int .i64 0, .int .i64 0, .int .i64 0, .slice none 0 0]] w (StepTo B g p (({ G with rs := [R.tick] } : PGroup).collected 0 R.tick) w) := by
  obtain ⟨W1, hW1⟩ : ∃ W1, W1 = w.alloc (.cells #[.int .i64 0, .int .i64 0, .int .i64 0, .slice none 0 0] 60) := ⟨_, rfl⟩
  have hb1 : Below w.heap.size w W1 := by rw [hW1]; exact (Below.refl _ _).alloc (Nat.le_refl _) _
  have hrow1 : W1.heap[w.heap.size]? = some (.cells #[.int .i64 0, .int .i64 0, .int .i64 0, .slice none 0 0] 60 (0, 0)) := by rw [hW1]; exact heap_alloc_new w _
  have HBW := Lib.hid (hb1.mono h.gr.bs)
  have H1 := Lib.hid (h.below hb1)
  obtain ⟨b0, c0, cp, c4⟩ := H1.out.cells
  have d0 : W1.cell? ⟨w.heap.size, 0, none⟩ = some (.int .i64 0) := by rw [cell_of_row _ _ 0 _ _ _ hrow1]; rfl
  have d1 : W1.cell? ⟨w.heap.size, 1, none⟩ = some (.int .i64 0) := by rw [cell_of_row _ _ 1 _ _ _ hrow1]; rfl
  have d2 : W1.cell? ⟨w.heap.size, 2, none⟩ = some (.int .i64 0) := by rw [cell_of_row _ _ 2 _ _ _ hrow1]; rfl
  have d3 : W1.cell? ⟨w.heap.size, 3, none⟩ = some (.slice none 0 0) := by rw [cell_of_row _ _ 3 _ _ _ hrow1]; rfl
  have HC := Lib.hid hc
  have HW1 := Lib.hid hW1
  have HROW := Lib.hid hrow1
  clear hc hb1 hrow1 hW1
  go_enter Tryz.func24, Tryz.ntmps24
  go_wp2_with fail
  rw [← HW1.out]
  go_quiet (first | (go_at_call 58; refine Calls.quiet_of_same (r1Pick1 _)))
  obtain ⟨W2, hW2⟩ : ∃ W2, W2 = W1.drewN nq := ⟨_, rfl⟩
  rw [← hW2]
  have hb2 : Below W1.heap.size W1 W2 := by rw [hW2]; exact below_drewN W1 nq
  have H2 := Lib.hid (H1.out.below hb2)
  have hrow2 := (hb2.block w.heap.size (Array.getElem?_eq_some_iff.1 HROW.out).1).trans HROW.out
  have HB2 := Lib.hid (HBW.out.trans (hb2.mono H1.out.gr.bs))
  have HB12 := Lib.hid hb2
  replace c0 := (hb2.cell (p := ⟨g, 0, none⟩) (cell_lt9 c0)).trans c0
  replace cp := (hb2.cell (p := ⟨b0, 0, none⟩) (cell_lt9 cp)).trans cp
  replace c4 := (hb2.cell (p := ⟨g, 4, none⟩) (cell_lt9 c4)).trans c4
  replace d2 := (hb2.cell (p := ⟨w.heap.size, 2, none⟩) (cell_lt9 d2)).trans d2
  clear d0 d1 d3 hb2 hW2
  have HROW2 := Lib.hid hrow2
  clear hrow2
  go_wp2_with fail
  go_quiet (first | (go_at_call 58; refine Calls.quiet_of_same (r1Pick0 _)))
  obtain ⟨W3, hW3⟩ : ∃ W3, W3 = W2.drewN nq := ⟨_, rfl⟩
  have hb3 : Below W2.heap.size W2 W3 := by rw [hW3]; exact below_drewN W2 nq
  rw [← hW3]
  have H3 := Lib.hid (H2.out.below hb3)
  have HB3 := Lib.hid (HB2.out.trans (hb3.mono H2.out.gr.bs))
  have hrow3 : W3.heap[w.heap.size]? = some (.cells #[.int .i64 0, .int .i64 0, .int .i64 0, .slice none 0 0] 60 (0, 0)) := (hb3.block w.heap.size (Array.getElem?_eq_some_iff.1 HROW2.out).1).trans HROW2.out
  have hg3 := H3.out.gr.lt (x := .g) rfl
  replace c0 := (hb3.cell (p := ⟨g, 0, none⟩) (cell_lt9 c0)).trans c0
  replace cp := (hb3.cell (p := ⟨b0, 0, none⟩) (cell_lt9 cp)).trans cp
  clear c4 d2 hb3 hW3
  have d0 : W3.cell? ⟨w.heap.size, 0, none⟩ = some (.int .i64 0) := by rw [cell_of_row _ _ 0 _ _ _ hrow3]; rfl
  have d3 : W3.cell? ⟨w.heap.size, 3, none⟩ = some (.slice none 0 0) := by rw [cell_of_row _ _ 3 _ _ _ hrow3]; rfl
  obtain ⟨wo, hwo⟩ : ∃ wo : World, wo = w := ⟨_, rfl⟩
  have HWO := Lib.hid hwo
  clear hwo
  go_wp2_with fail
  go_loopw [6] (fun iv wr => (iv = .int .i64 0 ∧ wr = W3) ∨ (iv = .int .i64 1 ∧ ∃ M' N', GrAt wr B g 0 (({ G with rs := [R.tick] } : PGroup).collected 0 R.tick) M' ∧ M'.ps[0]? = some (p, N') ∧ N'.ps = [] ∧ Below B wo wr)) (fun iv _ => 1 - (intOf iv).toNat)
  case atStart => exact .inl ⟨rfl, rfl⟩
  case round =>
    rcases hrel with ⟨rfl, rfl⟩ | ⟨rfl, M', N', hg', hp', hn', hbe'⟩
    · have hok := H3.out.ok
      go_wp2_with fail
      refine (raftTick p R N hok.n1 hok.n7 hok.me0 hok.men hok.bt0 hok.bt1 hok.line hok.xs hok.tk0 (by have := hok.tk1; omega) (by rw [H3.out.nw]; simp) (by rw [H3.out.out]; simp) _ H3.out.rf).mono ?_
      rintro e w5 ⟨rfl, N1, hr5, ht5⟩
      obtain ⟨hg5, hb5⟩ := H3.out.put hr5 ht5
      have HG5 := Lib.hid hg5
      have HB5 := Lib.hid (HB3.out.trans hb5)
      have hq5 : ({ M with ps := M.ps.set 0 (p, N1) } : GMem).ps[0]? = some (p, N1) := by
        show (M.ps.set 0 _)[0]? = _
        rw [set_get (List.getElem?_eq_some_iff.1 H3.out.q).1, if_pos rfl]
      clear hg5 hb5 hr5 ht5 c0 cp d0 d3
      go_wp2_with fail
      refine (l18collect1 HG5.out hq5 HC.out).mono ?_
      rintro e w6 ⟨rfl, M6, N6, hg6, hp6, hn6, hb6⟩
      have HF := Lib.hid hg6
      have HFB := Lib.hid (HB5.out.trans hb6)
      clear hg6 hb6
      go_wp2_with fail
      go_roundw
      case rel => exact .inr ⟨rfl, M6, N6, HF.out, hp6, hn6, by rw [HWO.out]; exact HFB.out⟩
      case measure => simp [intOf]
    · have hl9 : M'.ps.length = 1 := by rw [hg'.rl, collected_len]; rfl
      have c9 : wr.cell? ⟨g, 0, none⟩ = some (.slice (M'.ra 0) 1 (M'.rc 0)) := by rw [← hl9]; exact hg'.cl (i := 0) (by omega)
      have HF := Lib.hid hg'
      have HFB := Lib.hid hbe'
      clear hg' hbe' c0 cp d0 d3
      go_wp2_with fail
      go_end0
      exact ⟨rfl, M', N', HF.out, hp', hn', by rw [← HWO.out]; exact HFB.out⟩

set_option maxRecDepth 100000 in
set_option maxHeartbeats 2000000 in
theorem l18step4 {N : RMem} {p : Nat} {R : PRaft} (h : One w B g G M p N R) (sa : Option Addr) (sc : Nat) (b : List UInt8) (hby : BsAt w w.heap.size sa b.length sc b) (hc : Col { G with rs := [(R.propose b).1] } 0 (R.propose b).1) :
    Calls Tryz.prog 24 #[.pointer (some ⟨g, 0, none⟩), .agg #[.int .i64 4, .int .i64 0, .int .i64 0, .slice sa b.length sc]] w (StepTo B g p (({ G with rs := [(R.propose b).1] } : PGroup).collected 0 (R.propose b).1) w) := by
  obtain ⟨W1, hW1⟩ : ∃ W1, W1 = w.alloc (.cells #[.int .i64 4, .int .i64 0, .int .i64 0, .slice sa b.length sc] 60) := ⟨_, rfl⟩
  have hb1 : Below w.heap.size w W1 := by rw [hW1]; exact (Below.refl _ _).alloc (Nat.le_refl _) _
  have hrow1 : W1.heap[w.heap.size]? = some (.cells #[.int .i64 4, .int .i64 0, .int .i64 0, .slice sa b.length sc] 60 (0, 0)) := by rw [hW1]; exact heap_alloc_new w _
  have HBW := Lib.hid (hb1.mono h.gr.bs)
  have H1 := Lib.hid (h.below hb1)
  obtain ⟨b0, c0, cp, c4⟩ := H1.out.cells
  have d0 : W1.cell? ⟨w.heap.size, 0, none⟩ = some (.int .i64 4) := by rw [cell_of_row _ _ 0 _ _ _ hrow1]; rfl
  have d1 : W1.cell? ⟨w.heap.size, 1, none⟩ = some (.int .i64 0) := by rw [cell_of_row _ _ 1 _ _ _ hrow1]; rfl
  have d2 : W1.cell? ⟨w.heap.size, 2, none⟩ = some (.int .i64 0) := by rw [cell_of_row _ _ 2 _ _ _ hrow1]; rfl
  have d3 : W1.cell? ⟨w.heap.size, 3, none⟩ = some (.slice sa b.length sc) := by rw [cell_of_row _ _ 3 _ _ _ hrow1]; rfl
  have HC := Lib.hid hc
  have HBL := Lib.hid hb1
  have HW1 := Lib.hid hW1
  have HROW := Lib.hid hrow1
  clear hc hb1 hrow1 hW1
  go_enter Tryz.func24, Tryz.ntmps24
  go_wp2_with fail
  rw [← HW1.out]
  go_quiet (first | (go_at_call 58; refine Calls.quiet_of_same (r1Pick1 _)))
  obtain ⟨W2, hW2⟩ : ∃ W2, W2 = W1.drewN nq := ⟨_, rfl⟩
  rw [← hW2]
  have hb2 : Below W1.heap.size W1 W2 := by rw [hW2]; exact below_drewN W1 nq
  have H2 := Lib.hid (H1.out.below hb2)
  have hrow2 := (hb2.block w.heap.size (Array.getElem?_eq_some_iff.1 HROW.out).1).trans HROW.out
  have HB2 := Lib.hid (HBW.out.trans (hb2.mono H1.out.gr.bs))
  have HB12 := Lib.hid hb2
  replace c0 := (hb2.cell (p := ⟨g, 0, none⟩) (cell_lt9 c0)).trans c0
  replace cp := (hb2.cell (p := ⟨b0, 0, none⟩) (cell_lt9 cp)).trans cp
  replace c4 := (hb2.cell (p := ⟨g, 4, none⟩) (cell_lt9 c4)).trans c4
  replace d2 := (hb2.cell (p := ⟨w.heap.size, 2, none⟩) (cell_lt9 d2)).trans d2
  clear d0 d1 d3 hb2 hW2
  have HROW2 := Lib.hid hrow2
  clear hrow2
  go_wp2_with fail
  go_quiet (first | (go_at_call 58; refine Calls.quiet_of_same (r1Pick0 _)))
  obtain ⟨W3, hW3⟩ : ∃ W3, W3 = W2.drewN nq := ⟨_, rfl⟩
  have hb3 : Below W2.heap.size W2 W3 := by rw [hW3]; exact below_drewN W2 nq
  rw [← hW3]
  have H3 := Lib.hid (H2.out.below hb3)
  have HB3 := Lib.hid (HB2.out.trans (hb3.mono H2.out.gr.bs))
  have hrow3 : W3.heap[w.heap.size]? = some (.cells #[.int .i64 4, .int .i64 0, .int .i64 0, .slice sa b.length sc] 60 (0, 0)) := (hb3.block w.heap.size (Array.getElem?_eq_some_iff.1 HROW2.out).1).trans HROW2.out
  have hg3 := H3.out.gr.lt (x := .g) rfl
  have HBY3 := Lib.hid ((((((BsAt.below hby HBL.out (Nat.le_refl _)).mono HBL.out.size).below HB12.out (Nat.le_refl _)).mono HB12.out.size).below hb3 (Nat.le_refl _)).mono hb3.size)
  replace c0 := (hb3.cell (p := ⟨g, 0, none⟩) (cell_lt9 c0)).trans c0
  replace cp := (hb3.cell (p := ⟨b0, 0, none⟩) (cell_lt9 cp)).trans cp
  clear c4 d2 hb3 hW3
  have d0 : W3.cell? ⟨w.heap.size, 0, none⟩ = some (.int .i64 4) := by rw [cell_of_row _ _ 0 _ _ _ hrow3]; rfl
  have d3 : W3.cell? ⟨w.heap.size, 3, none⟩ = some (.slice sa b.length sc) := by rw [cell_of_row _ _ 3 _ _ _ hrow3]; rfl
  obtain ⟨q0, hq01, hq02, hq03, -, -⟩ := H3.out.row (j := 0) (by omega) (by show M.ps.length = 1; rw [H3.out.gr.rl, H3.out.rs]; rfl) rfl
  have hqb : q0 = b0 := by
    rw [hq02] at c0; injection c0 with c0; injection c0 with c0; injection c0 with c0; injection c0
  subst hqb
  have HS3 := Lib.hid (show StpS g q0 p (M.rc 0) w.heap.size (.slice sa b.length sc) W3 from ⟨hg3, c0, cp, d3⟩)
  have HFAR := Lib.hid (show ¬ N.own p g ∧ ¬ N.own p q0 ∧ ¬ N.own p w.heap.size from ⟨H3.out.far.1, H3.out.far.2 0 q0 (by omega) (by rw [hq01]; rfl), fun hk => by
    have h9 := h.gr.lt (x := .raft 0) (k := w.heap.size) ⟨_, h.q, hk⟩
    omega⟩)
  clear hq01 hq02 hq03 c0 cp d3 hg3 hrow3
  go_wp2_with fail
  clear d0
  refine wp_region_any (by kernel_rfl) ?_
  refine wpAny_of_held (S := StpS g q0 p (M.rc 0) w.heap.size (.slice sa b.length sc)) _ _ _ _ ?_
  obtain ⟨W4, hW4⟩ : ∃ W4, W4 = W3.drew := ⟨_, rfl⟩
  have hdr : Below W3.heap.size W3 W4 := by rw [hW4]; exact (Below.refl _ _).drew
  (refine (show wpAnyH _ _ _ _ _ _ _ _ W3.drew from ?_))
  rw [← hW4]
  clear hW4
  have H4 := Lib.hid (H3.out.below hdr)
  have hS : StpS g q0 p (M.rc 0) w.heap.size (.slice sa b.length sc) W4 := HS3.out.below hdr
  refine heldTake 0 123 rfl rfl (by kernel_rfl) (by kernel_rfl) (by kernel_rfl) (fun _ _ _ h => h) hS (.inl ⟨by rfl, by intro w' hS; obtain ⟨s1, s2, s3, s4⟩ := hS; go_simp; (try rfl)⟩) ?_
  simp only [List.set_cons_zero, List.set_cons_succ]
  refine heldTake 4 127 rfl rfl (by kernel_rfl) (by kernel_rfl) (by kernel_rfl) (fun _ _ _ h => h) hS (.inl ⟨by rfl, by intro w' hS; obtain ⟨s1, s2, s3, s4⟩ := hS; go_simp; (try rfl)⟩) ?_
  simp only [List.set_cons_zero, List.set_cons_succ]
  refine heldTake 7 130 rfl rfl (by kernel_rfl) (by kernel_rfl) (by kernel_rfl) (fun _ _ _ h => h) hS (.inl ⟨by rfl, by intro w' hS; obtain ⟨s1, s2, s3, s4⟩ := hS; go_simp; (try rfl)⟩) ?_
  simp only [List.set_cons_zero, List.set_cons_succ]
  refine heldTake 1 124 rfl rfl (by kernel_rfl) (by kernel_rfl) (by kernel_rfl) (fun _ _ _ h => h) hS (.inl ⟨by rfl, by intro w' hS; obtain ⟨s1, s2, s3, s4⟩ := hS; go_simp; (try rfl)⟩) ?_
  simp only [List.set_cons_zero, List.set_cons_succ]
  refine heldTake 8 131 rfl rfl (by kernel_rfl) (by kernel_rfl) (by kernel_rfl) (fun _ _ _ h => h) hS (.inl ⟨by rfl, by intro w' hS; obtain ⟨s1, s2, s3, s4⟩ := hS; go_simp; (try rfl)⟩) ?_
  simp only [List.set_cons_zero, List.set_cons_succ]
  refine heldTake 2 125 rfl rfl (by kernel_rfl) (by kernel_rfl) (by kernel_rfl) (fun _ _ _ h => h) hS (.inl ⟨by rfl, by intro w' hS; obtain ⟨s1, s2, s3, s4⟩ := hS; go_simp; (try rfl)⟩) ?_
  simp only [List.set_cons_zero, List.set_cons_succ]
  refine heldTake 3 126 rfl rfl (by kernel_rfl) (by kernel_rfl) (by kernel_rfl) (fun _ _ _ h => h) hS (.inl ⟨by rfl, by intro w' hS; obtain ⟨s1, s2, s3, s4⟩ := hS; go_simp; (try rfl)⟩) ?_
  simp only [List.set_cons_zero, List.set_cons_succ]
  refine heldTake 5 128 rfl rfl (by kernel_rfl) (by kernel_rfl) (by kernel_rfl) (fun _ _ _ h => h) hS (.inl ⟨by rfl, by intro w' hS; obtain ⟨s1, s2, s3, s4⟩ := hS; go_simp; (try rfl)⟩) ?_
  simp only [List.set_cons_zero, List.set_cons_succ]
  refine heldTake 6 129 rfl rfl (by kernel_rfl) (by kernel_rfl) (by kernel_rfl) (fun _ _ _ h => h) hS (.inl ⟨by rfl, by intro w' hS; obtain ⟨s1, s2, s3, s4⟩ := hS; go_simp; (try rfl)⟩) ?_
  simp only [List.set_cons_zero, List.set_cons_succ]
  have HSX := Lib.hid hS
  clear hS
  have hok := H4.out.ok
  refine heldOne 9 (by kernel_rfl) rfl (by rfl) ?_
  go_simp
  refine (raftPropose p R N sa sc b hok.n1 hok.n7 hok.me0 hok.men hok.line hok.xs (by rw [H4.out.nw]; simp) (by rw [H4.out.out]; simp) _ ((HBY3.out.below hdr (Nat.le_refl _)).mono hdr.size) H4.out.rf).mono ?_
  rintro e w5 ⟨rfl, N1, hr5, ht5⟩
  obtain ⟨hg5, hb5⟩ := H4.out.put hr5 ht5
  have hS5 := HSX.out.touch ht5 HFAR.out.1 HFAR.out.2.1 HFAR.out.2.2
  have HG5 := Lib.hid hg5
  have HB5 := Lib.hid (HB3.out.trans ((hdr.mono H3.out.gr.bs).trans hb5))
  have hq5 : ({ M with ps := M.ps.set 0 (p, N1) } : GMem).ps[0]? = some (p, N1) := by
    show (M.ps.set 0 _)[0]? = _
    rw [set_get (List.getElem?_eq_some_iff.1 H3.out.q).1, if_pos rfl]
  refine ⟨hS5, wpAnyH_done (by kernel_rfl) ?_ _⟩
  clear hg5 hb5 hr5 ht5 hS5 hdr
  go_wp2_with fail
  refine (l18collect1 HG5.out hq5 HC.out).mono ?_
  rintro e w6 ⟨rfl, M6, N6, hg6, hp6, hn6, hb6⟩
  have HF := Lib.hid hg6
  have HFB := Lib.hid (HB5.out.trans hb6)
  clear hg6 hb6
  go_wp2_with fail
  go_end0
  exact ⟨rfl, M6, N6, HF.out, hp6, hn6, HFB.out⟩
end
end Go.Proofs.YtogcnfhmcpkdcaaGreat
