/-
  What lasts: the loop of the law RaftLasts, at a round's head and behind its act. No walk.
  What lasts: small facts for the acts of the law RaftLasts. No walk.
  The law RaftLasts: the walk.
-/
import Derived.Test.YtogcnfhmcpkdcaaGreatRaftM6
import Derived.Test.YtogcnfhmcpkdcaaGreatRaftNB
import Derived.Test.YtogcnfhmcpkdcaaGreatRaftN8
import Derived.Test.YtogcnfhmcpkdcaaGreatOpenA8
import Derived.Test.YtogcnfhmcpkdcaaGreatLaw18a
import Derived.Deep.LoopGhost
import Derived.Deep.DeepCutAuto
import Derived.Deep.CutBlock
namespace Go.Proofs.YtogcnfhmcpkdcaaGreat
open Go.RowKit
set_option linter.unusedVariables false
set_option linter.unusedSimpArgs false

theorem readNote_me {S T : PRaft} {l : List UInt8} (h : S.readNote l = some T) : T.me = S.me ∧ T.n = S.n := by
  unfold PRaft.readNote at h
  cases hr : getNote l with
  | err x => rw [hr] at h; cases h
  | ok v rest =>
    rw [hr] at h
    cases v with
    | bal t f =>
      simp only [noteOut] at h
      split at h
      · injection h with h; subst h; exact ⟨rfl, rfl⟩
      · cases h
    | itm A t b =>
      simp only [noteOut] at h
      split at h
      · unfold PRaft.place at h
        split at h
        · cases h
        · split at h
          · injection h with h; subst h; exact ⟨rfl, rfl⟩
          · cases h
      · cases h
theorem loads_me : ∀ {l : List (List UInt8)} {S T : PRaft}, S.loads l = some T → T.me = S.me ∧ T.n = S.n
  | [], S, T, h => by injection h with h; subst h; exact ⟨rfl, rfl⟩
  | b :: l, S, T, h => by
    have h : (S.readNote b).bind (fun U => U.loads l) = some T := h
    cases hr : S.readNote b with
    | none => rw [hr] at h; cases h
    | some U =>
      rw [hr] at h
      have h1 := readNote_me hr
      have h2 := loads_me (l := l) (S := U) h
      exact ⟨h2.1.trans h1.1, h2.2.trans h1.2⟩
theorem Tells.me {R R' : PRaft} (h : Tells R R') : R'.me = R.me ∧ R'.n = R.n := by
  obtain ⟨ns, -, h2, -⟩ := h
  exact loads_me (S := R.bare) (T := R'.bare) h2
theorem given_me (R : PRaft) (f : Int) (x : PLet) : (R.given f x).me = R.me ∧ (R.given f x).n = R.n := by
  unfold PRaft.given
  have h1 : (R.follows f x).1.me = R.me ∧ (R.follows f x).1.n = R.n := by
    unfold PRaft.follows
    split
    · exact ⟨rfl, rfl⟩
    · split <;> exact ⟨rfl, rfl⟩
  split
  · unfold PRaft.given1
    split
    · exact h1
    · exact h1
  · exact h1
theorem handle_me {R : PRaft} (h : R.Ok) (f : Int) (x : PLet) : (R.handle f x).me = R.me ∧ (R.handle f x).n = R.n := by
  unfold PRaft.handle
  split
  · exact ⟨rfl, rfl⟩
  · rename_i h9
    have hr : rightL x = true := by
      cases hh : rightL x with
      | true => rfl
      | false => exact absurd (.inr (.inr (.inr hh))) h9
    have h1 := ok_stepUp h (right_places hr).2.1.2
    obtain ⟨h3, h2⟩ := stepUp_eq R x.t
    unfold PRaft.heard
    rw [← h2, ← h3]
    split
    · exact (tells_asked h1 f x).me
    · split
      · exact (tells_said h1 f x).me
      · split
        · exact (tells_sent h1 f x).me
        · split
          · exact (tells_got _ f x).me
          · split
            · exact given_me _ f x
            · exact ⟨rfl, rfl⟩

theorem keep_self {R : PRaft} (h : R.Ok) (hs : (putItems R.line.l).length ≤ 800000) : loadH (PRaft.new R.me R.n) R.head = some R.bare := by
  unfold loadH
  rw [if_neg (head_ne R), head_reads (B := 800000) ⟨h.bt0, h.bt1, h.bf0, h.bf1, h.line, h.st, hs⟩ (by omega)]
  rfl
theorem keep_on {A : Option PRaft} {l ns : List (List UInt8)} {R R' : PRaft} (h : (A.bind fun S => S.loads l) = some R.bare) (hn : R.bare.loads ns = some R'.bare) : (A.bind fun S => S.loads (l ++ ns)) = some R'.bare := by
  cases A with
  | none => cases h
  | some S =>
    have h : S.loads l = some R.bare := h
    show S.loads (l ++ ns) = _
    rw [loads_append, h]; exact hn

/-- a row that is none of its own grows: the replica stays -/
theorem RfAt.grown {w w' : World} {p : Nat} {R : PRaft} {M : RMem} (h : RfAt w p R M) {o : Option Nat} (hg : w.grownBy w' o) (hn : ∀ k, o = some k → ¬ M.own p k) (hi : ∀ m ∈ M.ps, ∀ k, o = some k → m.ia.map (·.block) ≠ some k) (hU : ∀ k cs fr, o = some k → w.heap[k]? = some (.cells cs 5 fr) → False) : RfAt w' p R M := by
  have hs := hg.size
  have hlt : ∀ {k : Nat} {x : Obj}, w.heap[k]? = some x → k < w.heap.size := fun h9 => (Array.getElem?_eq_some_iff.1 h9).1
  have hb : ∀ k, k < w.heap.size → o ≠ some k → w'.heap[k]? = w.heap[k]? := fun k hk ho => hg.block k hk (fun e => ho e.symm)
  have hu : ∀ k cs fr, k < w.heap.size → w.heap[k]? = some (.cells cs 5 fr) → w'.heap[k]? = w.heap[k]? := fun k cs fr hk hc => hb k hk (fun e => hU k cs fr e hc)
  have hown : ∀ k, k < w.heap.size → M.own p k → w'.heap[k]? = w.heap[k]? := fun k hk hm => hb k hk (fun e => hn k e hm)
  have blk : ∀ {e base size n : Nat} {a : Option Addr} {c : Nat} {xs : List Value} {g : Nat}, w.ownsRow base e size (.slice a n c) n xs → (Value.slice a n c).ownBlock = some g → g < w.heap.size ∧ a.map (·.block) = some g := fun hr hg9 => by
    rw [ownBlock_eq] at hg9
    obtain ⟨cur, hc⟩ := own_kind hr hg9
    exact ⟨hlt hc, hg9⟩
  refine ⟨h.sv, (hown _ h.lt (.inl rfl)).trans h.row, ⟨(hown _ (hlt h.ln.row) (.inr (.inl rfl))).trans h.ln.row, own_mv9 h.ln.own fun g hg9 => ?_, h.ln.its, fun m hm => OwnBs.grown (T := 5) (h.ln.bs m hm) hu hs, Nat.zero_le _⟩, OwnBs.grown (T := 5) h.st hu hs, own_mv9 h.nw fun g hg9 => ?_, fun m hm => OwnBs.grown (T := 5) (h.nb m hm) hu hs, h.nq, own_mv9 h.ou fun g hg9 => ?_, h.oq, ⟨h.po.q, h.po.c, fun m hm => (h.po.m m hm).kept (fun k hk => hb k ((h.po.m m hm).block hk) (fun e => hi m hm k e hk)) hu hs, h.po.n⟩⟩
  · obtain ⟨h1, h2⟩ := blk h.ln.own hg9; exact hown g h1 (.inr (.inr (.inl h2)))
  · obtain ⟨h1, h2⟩ := blk h.nw hg9; exact hown g h1 (.inr (.inr (.inr (.inl h2))))
  · obtain ⟨h1, h2⟩ := blk h.ou hg9; exact hown g h1 (.inr (.inr (.inr (.inr h2))))

/-- what lasts, as the law keeps it: a head and the notes behind it -/
structure Kept (w0 wr : World) (p : Nat) (M : RMem) (H : List UInt8) (ha : Option Addr) (hc : Nat) (ns : List MNote) (na : Option Addr) (nc : Nat) : Prop where
  hd : ByAt wr ha hc H
  nr : wr.ownsRow w0.heap.size 27 1 (.slice na ns.length nc) ns.length (ns.map MNote.cell)
  nb : ∀ m ∈ ns, ByAt wr m.a m.c m.b
  nf : ∀ q, na.map (·.block) = some q → ¬ M.own p q
/-- the law's loop, at a round's head -/
structure LsL (w0 wr : World) (p : Nat) (i k : Int) (j : Nat) (R : PRaft) (M : RMem) (H : List UInt8) (ha : Option Addr) (hc : Nat) (ns : List MNote) (na : Option Addr) (nc : Nat) : Prop where
  rf : RfAt wr p R M
  bel : Below w0.heap.size w0 wr
  own : ∀ q, M.own p q → w0.heap.size ≤ q
  ok : R.Ok
  me : R.me = i
  n : R.n = k
  jp : R.jumped = false
  nw : R.news = []
  ke : Kept w0 wr p M H ha hc ns na nc
  kp : ((loadH (PRaft.new i k) H).bind fun S => S.loads (ns.map MNote.b)) = some R.bare
  ol : R.out.length ≤ 2000 * j
  nl : ns.length ≤ 400000 * j
  sz : (putItems R.line.l).length ≤ 3600 * j
/-- behind the act -/
structure LsA (w0 wr : World) (p : Nat) (i k : Int) (j : Nat) (R : PRaft) (M : RMem) (H : List UInt8) (ha : Option Addr) (hc : Nat) (ns : List MNote) (na : Option Addr) (nc : Nat) : Prop where
  rf : RfAt wr p R M
  bel : Below w0.heap.size w0 wr
  own : ∀ q, M.own p q → w0.heap.size ≤ q
  ok : R.Ok
  me : R.me = i
  n : R.n = k
  ke : Kept w0 wr p M H ha hc ns na nc
  kp : R.jumped = true ∨ (R.jumped = false ∧ ((loadH (PRaft.new i k) H).bind fun S => S.loads (ns.map MNote.b ++ R.news)) = some R.bare)
  ol : R.out.length ≤ 2000 * j + 1500
  nw : R.news.length ≤ 350000
  nl : ns.length ≤ 400000 * j
  sz : (putItems R.line.l).length ≤ 3600 * (j + 1)

section
variable {w0 wr w' : World} {p : Nat} {i k : Int} {j : Nat} {R R' : PRaft} {M M' : RMem} {H : List UInt8} {ha : Option Addr} {hc : Nat} {ns : List MNote} {na : Option Addr} {nc : Nat}
theorem Kept.touch (h : Kept w0 wr p M H ha hc ns na nc) (hr : RfAt wr p R M) (ht : RTouch p M M' wr w') : Kept w0 w' p M' H ha hc ns na nc := by
  have hlt : ∀ q, na.map (·.block) = some q → q < wr.heap.size := fun q hq => by
    obtain ⟨cur, hc⟩ := own_kind h.nr hq
    exact (Array.getElem?_eq_some_iff.1 hc).1
  refine ⟨hr.keeps ht h.hd, own_mv9 h.nr fun g hg => ?_, fun m hm => hr.keeps ht (h.nb m hm), fun q hq ho => ?_⟩
  · rw [ownBlock_eq] at hg
    exact ht.block g (hlt g hg) (h.nf g hg)
  · rcases ht.fresh q ho with h9 | h9
    · exact h.nf q hq h9
    · have := hlt q hq; omega
/-- behind an act that was noted -/
theorem LsL.act (h : LsL w0 wr p i k j R M H ha hc ns na nc) (hr : RfAt w' p R' M') (ht : RTouch p M M' wr w') (hok : R'.Ok) (htl : Tells R R' ∨ (R'.jumped = true ∧ R'.me = R.me ∧ R'.n = R.n)) (hg : Grows 350000 1500 3600 R R') : LsA w0 w' p i k j R' M' H ha hc ns na nc := by
  have hsz := h.bel.size
  have hme : R'.me = R.me ∧ R'.n = R.n := by
    rcases htl with h1 | h1
    · exact h1.me
    · exact h1.2
  refine ⟨hr, h.bel.trans (ht.below h.own hsz), ht.inn h.own hsz, hok, hme.1.trans h.me, hme.2.trans h.n, h.ke.touch h.rf ht, ?_, ?_, ?_, h.nl, ?_⟩
  · rcases htl with ⟨l, h1, h2, h3⟩ | h1
    · right
      refine ⟨h3.trans h.jp, ?_⟩
      rw [h1, h.nw, List.nil_append]
      exact keep_on h.kp h2
    · exact .inl h1.1
  · have := hg.2.1; have := h.ol; omega
  · have := hg.1; rw [h.nw] at this; simpa using this
  · have := hg.2.2; have := h.sz; omega
/-- the notes are taken, and laid behind the others -/
theorem LsA.noted (h : LsA w0 wr p i k j R M H ha hc ns na nc) {w7 : World} {a : Option Addr} {c : Nat}
    (ho : w7.ownsRow w0.heap.size 27 1 (.slice a (ns.length + M.ns.length) c) (ns.length + M.ns.length) (ns.map MNote.cell ++ M.ns.map MNote.cell)) (hg : (wr.setCell ⟨p, 33, none⟩ (.slice none 0 0)).grownBy w7 (Value.slice na ns.length nc).ownBlock)
    (ha9 : (Value.slice a (ns.length + M.ns.length) c).ownBlock = (Value.slice na ns.length nc).ownBlock ∨ (Value.slice a (ns.length + M.ns.length) c).ownBlock = some (wr.setCell ⟨p, 33, none⟩ (.slice none 0 0)).heap.size) :
    RfAt w7 p { R with news := [] } { M with na := none, nc := 0, ns := [] } ∧ Below w0.heap.size w0 w7 ∧ Kept w0 w7 p { M with na := none, nc := 0, ns := [] } H ha hc (ns ++ M.ns) a c := by
  obtain ⟨a1, b1⟩ := h.rf.clearNews
  have hsz := h.bel.size
  have hs1 := b1.size
  have hK := h.ke.touch h.rf b1
  have hbel1 := h.bel.trans (b1.below h.own hsz)
  have hblk : ∀ q, na.map (·.block) = some q → w0.heap.size ≤ q ∧ ∃ cur, (wr.setCell ⟨p, 33, none⟩ (.slice none 0 0)).heap[q]? = some (.cells cur 27 (0, 0)) := fun q hq => ⟨(own_lt hK.nr (by rw [ownBlock_eq]; exact hq)).1, own_kind hK.nr hq⟩
  rw [ownBlock_eq] at hg ha9
  rw [ownBlock_eq] at ha9
  have hU : ∀ q cs fr, na.map (·.block) = some q → (wr.setCell ⟨p, 33, none⟩ (.slice none 0 0)).heap[q]? = some (.cells cs 5 fr) → False := fun q cs fr hq hc => by
    obtain ⟨-, cur, h9⟩ := hblk q hq
    exact absurd (kind_eq h9 hc) (by decide)
  have hr7 := a1.grown hg hK.nf (fun m hm q hq e => by
    obtain ⟨-, cur, h9⟩ := hblk q hq
    obtain ⟨cur2, h8⟩ := own_kind (a1.po.m m hm).own.own e
    exact absurd (kind_eq h9 h8) (by decide)) hU
  have hs7 := hg.size
  have hu : ∀ q cs fr, q < (wr.setCell ⟨p, 33, none⟩ (.slice none 0 0)).heap.size → (wr.setCell ⟨p, 33, none⟩ (.slice none 0 0)).heap[q]? = some (.cells cs 5 fr) → w7.heap[q]? = (wr.setCell ⟨p, 33, none⟩ (.slice none 0 0)).heap[q]? := fun q cs fr hq hc => hg.block q hq (fun e => hU q cs fr e.symm hc)
  refine ⟨hr7, hbel1.grown hg (by omega) (fun q hq => (hblk q hq).1), ⟨OwnBs.grown (T := 5) hK.hd hu hs7, by rw [List.length_append, List.map_append]; exact ho, fun m hm => ?_, fun q hq ho9 => ?_⟩⟩
  · rw [List.mem_append] at hm
    rcases hm with hm | hm
    · exact OwnBs.grown (T := 5) (hK.nb m hm) hu hs7
    · exact OwnBs.grown (T := 5) (h.rf.keeps b1 (h.rf.nb m hm)) hu hs7
  · rcases ha9 with e | e
    · exact hK.nf q (e.symm.trans hq) ho9
    · rw [e] at hq; injection hq with hq
      exact a1.notNew (by omega) ho9
/-- a new head, with nothing behind it -/
theorem LsA.headed (h : LsA w0 wr p i k j R M H ha hc ns na nc) (hj : R.jumped = false) (hn : R.news = []) (hsz : (putItems R.line.l).length ≤ 800000) (hb : Below wr.heap.size wr w') {a : Option Addr} {c : Nat} (hh : ByAt w' a c R.head) : LsA w0 w' p i k j R M R.head a c [] none 0 := by
  have hs := h.bel.size
  refine ⟨h.rf.below hb, h.bel.trans (hb.mono hs), h.own, h.ok, h.me, h.n, ⟨hh, ⟨rfl, .inl ⟨rfl, rfl⟩⟩, by simp, fun q hq => by cases hq⟩, .inr ⟨hj, ?_⟩, h.ol, h.nw, by simp, h.sz⟩
  rw [hn, ← h.me, ← h.n, keep_self h.ok hsz]
  rfl
end
end Go.Proofs.YtogcnfhmcpkdcaaGreat

namespace Go.Proofs.YtogcnfhmcpkdcaaGreat
open Go.RowKit
set_option linter.unusedVariables false
set_option linter.unusedSimpArgs false

theorem putItems_le {l : List PItem} (h : ∀ it ∈ l, rightI it = true ∧ it.2.length ≤ 200) : (putItems l).length ≤ 218 * l.length := by
  induction l with
  | nil => simp [putItems]
  | cons it l ih =>
    have h1 := ih (fun x hx => h x (List.mem_cons_of_mem _ hx))
    have h2 := h it (by simp)
    have h3 := putItem_len h2.1
    have h4 : putItems (it :: l) = putItems [it] ++ putItems l := by rw [← putItems_append]; rfl
    rw [h4, List.length_append, List.length_cons]
    omega
theorem grows_handle9 {R : PRaft} (h : R.Ok) (f : Int) (x : PLet) (hs : ∀ it ∈ x.its, it.2.length ≤ 200) : Grows 4097 7 3600 R (R.handle f x) := by
  cases hr : rightL x with
  | false =>
    have e : R.handle f x = R := by unfold PRaft.handle; rw [if_pos (.inr (.inr (.inr hr)))]
    rw [e]; exact (Grows.refl R).le
  | true =>
    obtain ⟨-, -, -, -, -, h16, -, hits, -⟩ := right_places hr
    have h1 := putItems_le (l := x.its) (fun it hit => ⟨hits it hit, hs it hit⟩)
    exact (grows_handle h f x).le
theorem compact_same (R : PRaft) (b : List UInt8) : (R.compact b).1.me = R.me ∧ (R.compact b).1.n = R.n ∧ (R.compact b).1.jumped = R.jumped ∧ (R.compact b).1.news = R.news ∧ (R.compact b).1.out = R.out ∧ (putItems (R.compact b).1.line.l).length ≤ (putItems R.line.l).length ∧ ((R.compact b).2 = false → (R.compact b).1 = R) := by
  unfold PRaft.compact
  split
  · exact ⟨rfl, rfl, rfl, rfl, rfl, Nat.le_refl _, fun _ => rfl⟩
  · refine ⟨rfl, rfl, rfl, rfl, rfl, ?_, fun h => by cases h⟩
    show (putItems (R.line.drop R.applied).1.l).length ≤ _
    unfold PLine.drop
    split
    · exact Nat.le_refl _
    · exact putItems_drop _ _
/-- behind an act that made what is kept anew -/
theorem LsL.headed {w0 wr w' w'' : World} {p : Nat} {i k : Int} {j : Nat} {R R' : PRaft} {M M' : RMem} {H : List UInt8} {ha : Option Addr} {hc : Nat} {ns : List MNote} {na : Option Addr} {nc : Nat} (h : LsL w0 wr p i k j R M H ha hc ns na nc)
    (hr : RfAt w' p R' M') (ht : RTouch p M M' wr w') (hok : R'.Ok) (hme : R'.me = R.me) (hnn : R'.n = R.n) (hj : R'.jumped = false) (hn : R'.news = []) (ho : R'.out = R.out) (hsz : (putItems R'.line.l).length ≤ (putItems R.line.l).length) (hj60 : j < 60) (hb : Below w'.heap.size w' w'') {a : Option Addr} {c : Nat} (hh : ByAt w'' a c R'.head) :
    LsA w0 w'' p i k j R' M' R'.head a c [] none 0 := by
  have hs := h.bel.size
  have hbel := h.bel.trans (ht.below h.own hs)
  have h1 := h.sz
  refine ⟨hr.below hb, hbel.trans (hb.mono hbel.size), ht.inn h.own hs, hok, hme.trans h.me, hnn.trans h.n, ⟨hh, ⟨rfl, .inl ⟨rfl, rfl⟩⟩, by simp, fun q hq => by cases hq⟩, .inr ⟨hj, ?_⟩, by rw [ho]; have := h.ol; omega, by rw [hn]; simp, by simp, by omega⟩
  have h9 := keep_self hok (by omega)
  rw [hme, hnn, h.me, h.n] at h9
  rw [h9, hn]; rfl
end Go.Proofs.YtogcnfhmcpkdcaaGreat

namespace Go.Proofs.YtogcnfhmcpkdcaaGreat
open Go.RowKit
set_option linter.unusedVariables false
set_option linter.unusedSimpArgs false

theorem infoAct18 : (Tryz.prog.info? 34).map (·.size) = some 11 := by kernel_rfl
theorem actCells {W : World} {g : Nat} {v0 v1 v2 v3 v4 v5 v6 v7 v8 v9 v10 : Value} (h : W.heap[g]? = some (.cells #[v0, v1, v2, v3, v4, v5, v6, v7, v8, v9, v10] 34 (0, 0))) :
    W.cell? ⟨g, 0, none⟩ = some v0 ∧ W.cell? ⟨g, 1, none⟩ = some v1 ∧ W.cell? ⟨g, 2, none⟩ = some v2 ∧ W.cell? ⟨g, 3, none⟩ = some v3 ∧ W.cell? ⟨g, 4, none⟩ = some v4 ∧ W.cell? ⟨g, 5, none⟩ = some v5 ∧ W.cell? ⟨g, 6, none⟩ = some v6 ∧ W.cell? ⟨g, 7, none⟩ = some v7 ∧ W.cell? ⟨g, 8, none⟩ = some v8 ∧ W.cell? ⟨g, 9, none⟩ = some v9 ∧ W.cell? ⟨g, 10, none⟩ = some v10 :=
  ⟨cell_of_row W g 0 _ _ _ h, cell_of_row W g 1 _ _ _ h, cell_of_row W g 2 _ _ _ h, cell_of_row W g 3 _ _ _ h, cell_of_row W g 4 _ _ _ h, cell_of_row W g 5 _ _ _ h, cell_of_row W g 6 _ _ _ h, cell_of_row W g 7 _ _ _ h, cell_of_row W g 8 _ _ _ h, cell_of_row W g 9 _ _ _ h, cell_of_row W g 10 _ _ _ h⟩
theorem lfar {w : World} {B p : Nat} {M : RMem} {x : PLet} {ia : Option Addr} {ic : Nat} {ms : List MItem} {ba : Option Addr} {bc : Nat} (h : LetAt w B x ia ic ms ba bc) (hB : B ≤ w.heap.size) (ho : ∀ q, M.own p q → B ≤ q) : LetFar w p M x ia ic ms ba bc := by
  refine ⟨h.mono hB, fun hp ad e hq => ?_, fun m hm hp ad e hq => ?_, fun hp ad e hq => ?_⟩
  · obtain ⟨b, o, e2, hl, -⟩ := h.its.sl.hat (by rw [h.its.sl.hlen]; omega)
    rw [e] at e2; injection e2 with e2; subst e2
    have := ho _ hq
    simp only at this; omega
  · obtain ⟨b, o, e2, hl, -⟩ := (h.its.bs m hm).hat hp
    rw [e] at e2; injection e2 with e2; subst e2
    have := ho _ hq
    simp only at this; omega
  · obtain ⟨b, o, e2, hl, -⟩ := h.b.hat hp
    rw [e] at e2; injection e2 with e2; subst e2
    have := ho _ hq
    simp only at this; omega

/-- Jump, with the flag unread -/
theorem raftJumpU {w : World} {p : Nat} {R : PRaft} {M : RMem} (h : RfAt w p R M) : Calls Tryz.prog 16 #[.pointer (some ⟨p, 0, none⟩)] w fun e w' => ∃ jb a n c M', R.jumped = jb ∧ e = .returned (.tuple #[.slice a n c, .bool jb]) ∧ RfAt w' p R.jump.1 M' ∧ RTouch p M M' w w' := by
  refine (raftJump h).mono ?_
  intro e w' hj
  unfold JumpTo at hj
  cases hb : R.jumped with
  | false =>
    have h1 : R.jump = (R, none) := by unfold PRaft.jump; rw [if_neg (by rw [hb]; decide)]
    rw [h1] at hj
    obtain ⟨rfl, rfl⟩ := hj
    exact ⟨_, _, _, _, M, rfl, rfl, by rw [h1]; exact h, RTouch.refl _ _ _⟩
  | true =>
    have h1 : R.jump = ({ R with jumped := false, news := [] }, some R.state) := by unfold PRaft.jump; rw [if_pos hb]
    rw [h1] at hj
    obtain ⟨a, c, rfl, -, M', h2, h3⟩ := hj
    exact ⟨_, a, _, c, M', rfl, rfl, by rw [h1]; exact h2, h3⟩
/-- Next, with its answer unread -/
theorem raftNextU (p : Nat) (R : PRaft) (M : RMem) (h : R.Ok) (w : World) (hr : RfAt w p R M) : Calls Tryz.prog 14 #[.pointer (some ⟨p, 0, none⟩)] w fun e w' => ∃ v1 v2 v3 M', e = .returned (.tuple #[v1, v2, v3]) ∧ RfAt w' p R.next.1 M' ∧ RTouch p M M' w w' := by
  refine (raftNext p R M h.line h.ap0 h.ap1 h.cm w hr).mono ?_
  intro e w' hn
  unfold NextTo at hn
  split at hn
  · obtain ⟨h1, M', h2, h3⟩ := hn
    exact ⟨_, _, _, M', h1, h2, h3⟩
  · obtain ⟨a, c, h1, -, M', h2, h3⟩ := hn
    exact ⟨_, _, _, M', h1, h2, h3⟩
theorem LsA.sizes {w0 wr : World} {p : Nat} {i k : Int} {j : Nat} {R : PRaft} {M : RMem} {H : List UInt8} {ha : Option Addr} {hc : Nat} {ns : List MNote} {na : Option Addr} {nc : Nat} (h : LsA w0 wr p i k j R M H ha hc ns na nc) (hj : j < 60) : (putItems R.line.l).length ≤ 216000 ∧ R.line.put.length ≤ 900000 ∧ R.state.length ≤ 70000 := by
  have h1 := h.sz
  have h2 : (putItems R.line.l).length ≤ 216000 := by omega
  have h3 : R.Fit 216000 := ⟨h.ok.bt0, h.ok.bt1, h.ok.bf0, h.ok.bf1, h.ok.line, h.ok.st, h2⟩
  exact ⟨h2, by have := h3.put; omega, by have := h.ok.st; omega⟩
/-- Head, of a replica behind its act -/
theorem LsA.head {w0 wr : World} {p : Nat} {i k : Int} {j : Nat} {R : PRaft} {M : RMem} {H : List UInt8} {ha : Option Addr} {hc : Nat} {ns : List MNote} {na : Option Addr} {nc : Nat} (h : LsA w0 wr p i k j R M H ha hc ns na nc) (hj : j < 60) :
    Calls Tryz.prog 10 #[.pointer (some ⟨p, 0, none⟩)] wr fun e w' => ∃ a c, e = .returned (.slice a R.head.length c) ∧ ByAt w' a c R.head ∧ Below wr.heap.size wr w' :=
  (raftHead p R M h.ok.bt0 h.ok.bt1 h.ok.bf0 h.ok.bf1 h.ok.line (h.sizes hj).2.1 (h.sizes hj).2.2 wr h.rf).mono fun e w' ⟨a, c, h1, h2, h3, _⟩ => ⟨a, c, h1, h2, h3⟩
/-- behind Jump, where none came -/
theorem LsA.still {w0 wr w' : World} {p : Nat} {i k : Int} {j : Nat} {R : PRaft} {M M' : RMem} {H : List UInt8} {ha : Option Addr} {hc : Nat} {ns : List MNote} {na : Option Addr} {nc : Nat} (h : LsA w0 wr p i k j R M H ha hc ns na nc) (hr : RfAt w' p R M') (ht : RTouch p M M' wr w') : LsA w0 w' p i k j R M' H ha hc ns na nc := by
  have hsz := h.bel.size
  exact ⟨hr, h.bel.trans (ht.below h.own hsz), ht.inn h.own hsz, h.ok, h.me, h.n, h.ke.touch h.rf ht, h.kp, h.ol, h.nw, h.nl, h.sz⟩
/-- behind Jump, where a state came: what is kept is made anew -/
theorem LsA.jump {w0 wr w' w'' : World} {p : Nat} {i k : Int} {j : Nat} {R : PRaft} {M M' : RMem} {H : List UInt8} {ha : Option Addr} {hc : Nat} {ns : List MNote} {na : Option Addr} {nc : Nat} (h : LsA w0 wr p i k j R M H ha hc ns na nc) (hj : j < 60) (hjp : R.jumped = true) (hr : RfAt w' p { R with jumped := false, news := [] } M') (ht : RTouch p M M' wr w') (hb : Below w'.heap.size w' w'') {a : Option Addr} {c : Nat} (hh : ByAt w'' a c R.head) :
    LsA w0 w'' p i k j { R with jumped := false, news := [] } M' R.head a c [] none 0 := by
  have hsz := h.bel.size
  have hbel := h.bel.trans (ht.below h.own hsz)
  have hok : ({ R with jumped := false, news := [] } : PRaft).Ok := by
    have h9 := ok_jump h.ok
    have e : R.jump = ({ R with jumped := false, news := [] }, some R.state) := by unfold PRaft.jump; rw [if_pos hjp]
    rw [e] at h9; exact h9
  refine ⟨hr.below hb, hbel.trans (hb.mono hbel.size), ht.inn h.own hsz, hok, h.me, h.n, ⟨hh, ⟨rfl, .inl ⟨rfl, rfl⟩⟩, by simp, fun q hq => by cases hq⟩, .inr ⟨rfl, ?_⟩, h.ol, by simp, by simp, h.sz⟩
  have h9 := keep_self h.ok (by have := (h.sizes hj).1; omega)
  rw [h.me, h.n] at h9
  rw [h9]; rfl

set_option maxRecDepth 100000 in
set_option maxHeartbeats 2000000 in
theorem raftLasts_calls (me n : Nat) (hme : me < 256) (hn : n < 256) (l : List MAct8) (a : Option Addr) (c : Nat) (w : World) (hs : SlAt w w.heap.size 11 a l.length c (cells8 l)) (hr : ∀ m ∈ l, m.Is w w.heap.size) :
    Calls Tryz.prog 3 #[.int .u8 me, .int .u8 n, .slice a l.length c] w fun e w' => e = .returned (.bool true) ∧ Below w.heap.size w w' := by
  have HS := Lib.hid hs
  have HX := Lib.hid hr
  have hmax := hs.hmax
  have hle := hs.hle
  unfold maxLen at hmax
  clear hs hr
  go_enter Tryz.func3, Tryz.ntmps3
  go_wp2_with fail
  refine (l18great l a c _ HS.out HX.out).mono ?_
  rintro e w1 ⟨rfl, hb1⟩
  have HB1 := Lib.hid hb1
  have hs1 := hb1.size
  clear hb1
  cases hg : greatE l with
  | true =>
    clear hg
    go_wp2_with fail
    refine (l18awake _).mono ?_
    rintro e w2 ⟨rfl, hb2⟩
    have HB2 := Lib.hid (HB1.out.trans (hb2.mono hs1))
    clear hb2
    go_wp2
    go_ret
    exact ⟨rfl, HB2.out⟩
  | false =>
    have HG := Lib.hid (greatE_no hg)
    have hl60 := (greatE_no hg).1
    clear hg
    obtain ⟨k, hk⟩ : ∃ k : Int, 1 + (n : Int) % 7 = k := ⟨_, rfl⟩
    have hkb : 1 ≤ k ∧ k ≤ 7 := by omega
    obtain ⟨i, hi⟩ : ∃ i : Int, (me : Int) % k = i := ⟨_, rfl⟩
    have hib : 0 ≤ i ∧ i < k := by
      rw [← hi]
      exact ⟨Int.emod_nonneg _ (by omega), Int.emod_lt_of_pos _ (by omega)⟩
    have hk0 : (k == 0) = false := by rw [beq_eq_false_iff_ne]; omega
    have hk1 : (k == -1) = false := by rw [beq_eq_false_iff_ne]; omega
    go_wp2_with fail
    rw [hi]
    clear hk hi
    refine (raftNew_yes i k hkb.1 hkb.2 hib.1 hib.2 _).mono ?_
    rintro e w2 ⟨p, rfl, M, hmade⟩
    have HM := Lib.hid hmade
    have hs2 := hmade.2.1.size
    clear hmade
    have HOK0 := Lib.hid (ok_new hkb.1 hkb.2 hib.1 hib.2)
    go_wp2_with fail
    refine (raftHead p (PRaft.new i k) M HOK0.out.bt0 HOK0.out.bt1 HOK0.out.bf0 HOK0.out.bf1 HOK0.out.line (by show (PLine.put ⟨0, 0, []⟩).length ≤ 900000; decide) (by show ([] : List UInt8).length ≤ 70000; decide) _ HM.out.1).mono ?_
    rintro e w3 ⟨a3, c3, rfl, hby3, hb3, -⟩
    have HL0 := Lib.hid (show LsL w w3 p i k 0 (PRaft.new i k) M (PRaft.new i k).head a3 c3 [] none 0 from
      ⟨HM.out.1.below hb3, HB1.out.trans ((HM.out.2.1.trans (hb3.mono hs2)).mono hs1), fun q hq => by have := HM.out.2.2 q hq; omega, HOK0.out, rfl, rfl, rfl, rfl,
       ⟨hby3, ⟨rfl, .inl ⟨rfl, rfl⟩⟩, by simp, fun q hq => by cases hq⟩, by
        have h9 := keep_self (R := PRaft.new i k) HOK0.out (by show (putItems []).length ≤ 800000; decide)
        show ((loadH (PRaft.new (PRaft.new i k).me (PRaft.new i k).n) (PRaft.new i k).head).bind fun S => some S) = _
        rw [h9]; rfl, by show ([] : List PPost).length ≤ _; simp, by simp, by show (putItems []).length ≤ _; simp [putItems]⟩)
    clear hby3 hb3
    go_wp2_with fail
    obtain ⟨wo, hwo⟩ : ∃ wo : World, wo = w := ⟨_, rfl⟩
    rw [← hwo] at HS HX HB1 HL0
    have HWO := Lib.hid hwo
    clear hwo
    go_loopg [10, 11, 12] l.length (fun gk v10 v11 v12 wr => ∃ (j : Nat) (R : PRaft) (M : RMem) (H : List UInt8) (ha : Option Addr) (hc : Nat) (ns : List MNote) (na : Option Addr) (nc : Nat), j + gk = l.length ∧ v10 = .slice ha H.length hc ∧ v11 = .slice na ns.length nc ∧ v12 = .int .i64 j ∧ LsL wo wr p i k j R M H ha hc ns na nc)
    case atStart => exact ⟨0, _, _, _, _, _, [], _, _, by omega, rfl, rfl, rfl, HL0.out⟩
    case round =>
      obtain ⟨j, R, M1, H, ha, hc, ns, na, nc, hgk, rfl, rfl, rfl, hl9⟩ := hrel
      have HL := Lib.hid hl9
      have HGK := Lib.hid hgk
      have hj60 : j ≤ l.length := by omega
      clear hl9 hgk
      by_cases hlt : j < l.length
      · have tj : decide ((j : Int) < (l.length : Int)) = true := by simpa using hlt
        have tjn : decide (j < l.length) = true := by simpa using hlt
        obtain ⟨m, hm⟩ : ∃ m, l[j]? = some m := ⟨_, List.getElem?_eq_getElem hlt⟩
        have hml := List.mem_of_getElem? hm
        obtain ⟨b, o, rfl, hb, hcc⟩ := HS.out.hat (by have := cells8_len l; omega)
        have hcl := cells8_len l
        have key : ∀ q v, q < 11 → m.cells[q]? = some v → wr.cell? ⟨b, o + j * 11 + q, none⟩ = some v := fun q v hq hv => by
          rw [HL.out.bel.cell (p := ⟨b, o + j * 11 + q, none⟩) hb, Nat.add_assoc, hcc _ (by omega), cells8_at l j m hm q hq, hv]
        have k0 : wr.cell? ⟨b, o + j * 11, none⟩ = some (.int .i64 m.d) := key 0 _ (by omega) rfl
        have k1 : wr.cell? ⟨b, o + j * 11 + 1, none⟩ = some (.int .i64 m.n) := key 1 _ (by omega) rfl
        have k2 : wr.cell? ⟨b, o + j * 11 + 2, none⟩ = some (.int .i64 m.x.k) := key 2 _ (by omega) rfl
        have k3 : wr.cell? ⟨b, o + j * 11 + 3, none⟩ = some (.int .i64 m.x.t) := key 3 _ (by omega) rfl
        have k4 : wr.cell? ⟨b, o + j * 11 + 4, none⟩ = some (.int .i64 m.x.a) := key 4 _ (by omega) rfl
        have k5 : wr.cell? ⟨b, o + j * 11 + 5, none⟩ = some (.int .i64 m.x.u) := key 5 _ (by omega) rfl
        have k6 : wr.cell? ⟨b, o + j * 11 + 6, none⟩ = some (.int .i64 m.x.o) := key 6 _ (by omega) rfl
        have k7 : wr.cell? ⟨b, o + j * 11 + 7, none⟩ = some (.bool m.x.y) := key 7 _ (by omega) rfl
        have k8 : wr.cell? ⟨b, o + j * 11 + 8, none⟩ = some (.slice m.ia m.ms.length m.ic) := key 8 _ (by omega) rfl
        have k9 : wr.cell? ⟨b, o + j * 11 + 9, none⟩ = some (.slice m.ba m.x.b.length m.bc) := key 9 _ (by omega) rfl
        have k10 : wr.cell? ⟨b, o + j * 11 + 10, none⟩ = some (.slice m.a m.b.length m.c) := key 10 _ (by omega) rfl
        have hj0 : (0 : Int) ≤ (j : Int) := by omega
        have hj1 : (j : Int) < (l.length : Int) := by omega
        have hbw : b < wr.heap.size := Nat.lt_of_lt_of_le hb HL.out.bel.size
        have HIS := Lib.hid (HX.out m hml)
        have HGM := Lib.hid (HG.out.2 m hml)
        clear hcc hcl key hm hml
        go_upto_block 2 with fail
        obtain ⟨WA, hWA⟩ : ∃ WA, WA = wr.alloc (.cells #[.int .i64 m.d, .int .i64 m.n, .int .i64 m.x.k, .int .i64 m.x.t, .int .i64 m.x.a, .int .i64 m.x.u, .int .i64 m.x.o, .bool m.x.y, .slice m.ia m.ms.length m.ic, .slice m.ba m.x.b.length m.bc, .slice m.a m.b.length m.c] 34) := ⟨_, rfl⟩
        have hbA : Below wr.heap.size wr WA := by rw [hWA]; exact (Below.refl _ _).alloc (Nat.le_refl _) _
        have hrA : WA.heap[wr.heap.size]? = some (.cells #[.int .i64 m.d, .int .i64 m.n, .int .i64 m.x.k, .int .i64 m.x.t, .int .i64 m.x.a, .int .i64 m.x.u, .int .i64 m.x.o, .bool m.x.y, .slice m.ia m.ms.length m.ic, .slice m.ba m.x.b.length m.bc, .slice m.a m.b.length m.c] 34 (0, 0)) := by rw [hWA]; exact heap_alloc_new wr _
        rw [← hWA]
        clear k0 k1 k2 k3 k4 k5 k6 k7 k8 k9 k10 hWA
        have HRA := Lib.hid (HL.out.rf.below hbA)
        have HBA := Lib.hid hbA
        have HROWA := Lib.hid hrA
        have hsA := hbA.size
        have hwr := HL.out.bel.size
        have hltA : wr.heap.size < WA.heap.size := (Array.getElem?_eq_some_iff.1 hrA).1
        have HNB := Lib.hid (HL.out.rf.notNew (Nat.le_refl wr.heap.size))
        clear hbA hrA
        go_cut [10, 11, 14] (fun s10 s11 s14 wc => ∃ (R' : PRaft) (M' : RMem) (H' : List UInt8) (ha' : Option Addr) (hc' : Nat) (ns' : List MNote) (na' : Option Addr) (nc' : Nat), s10 = .slice ha' H'.length hc' ∧ s11 = .slice na' ns'.length nc' ∧ LsA wo wc p i k j R' M' H' ha' hc' ns' na' nc')
        case first =>
          obtain ⟨g0, g1, g2, g3, g4, g5, g6, g7, g8, g9, g10⟩ := actCells HROWA.out
          have HLET := Lib.hid (show LetAt WA wo.heap.size m.x m.ia m.ic m.ms m.ba m.bc from
            (HIS.out.l.below (HL.out.bel.trans (HBA.out.mono hwr)) (Nat.le_refl _)).at (greatL_no HGM.out.1).2.2 (greatL_no HGM.out.1).2.1)
          have HMB := Lib.hid (show BsAt WA wo.heap.size m.a m.b.length m.c m.b from (HIS.out.b (by have := HGM.out.2; omega)).below (HL.out.bel.trans (HBA.out.mono hwr)) (Nat.le_refl _))
          have HNO := Lib.hid (show LsA wo WA p i k j R M1 H ha hc ns na nc from HL.out.act HRA.out (.ofBelow HBA.out) HL.out.ok (.inl (.refl _)) (Grows.refl R).le)
          by_cases d0 : m.d = 0
          · have t0 : (m.d == 0) = true := by simpa using d0
            clear d0
            go_wp2_with fail
            go_loopw [14] (fun iv wx => ∃ (q : Nat) (S : PRaft) (N : RMem), iv = .int .i64 q ∧ q ≤ 70 ∧ RfAt wx p S N ∧ RTouch p M1 N WA wx ∧ S.Ok ∧ Tells R S ∧ Grows (4097 * q) (14 * q) (18 * q) R S) (fun iv _ => 70 - (intOf iv).toNat)
            case atStart => exact ⟨0, R, M1, rfl, by omega, HRA.out, RTouch.refl _ _ _, HL.out.ok, .refl _, Grows.refl R⟩
            case round =>
              obtain ⟨q, S, N, rfl, hq, hrS, htS, hokS, htl, hgr⟩ := hrel
              have HRS := Lib.hid hrS
              have HTS := Lib.hid htS
              have HOKS := Lib.hid hokS
              have HTL := Lib.hid htl
              have HGR := Lib.hid hgr
              have g1' := (htS.cell (o := 1) hltA HNB.out).trans g1
              have hlim : S.news.length ≤ 290000 ∧ S.out.length ≤ 200000 := by
                have h1 := hgr.1
                have h2 := hgr.2.1
                rw [HL.out.nw] at h1
                have := HL.out.ol
                simp only [List.length_nil] at h1
                constructor <;> omega
              have HF := Lib.hid (HL.out.act hrS ((RTouch.ofBelow HBA.out).trans htS) hokS (.inl htl) (hgr.le))
              clear hrS htS hokS htl hgr
              by_cases hqn : (q : Int) < m.n
              · have t1 : decide ((q : Int) < m.n) = true := decide_eq_true hqn
                by_cases hq7 : q < 70
                · have t2 : decide ((q : Int) < 70) = true := decide_eq_true (by omega)
                  clear hqn
                  go_wp2_with fail
                  refine (raftTick p S N HOKS.out.n1 HOKS.out.n7 HOKS.out.me0 HOKS.out.men HOKS.out.bt0 HOKS.out.bt1 HOKS.out.line HOKS.out.xs HOKS.out.tk0 (by have := HOKS.out.tk1; omega) (by omega) (by omega) _ HRS.out).mono ?_
                  rintro e wy ⟨rfl, N2, hr2, ht2⟩
                  have HR2 := Lib.hid hr2
                  have HT2 := Lib.hid (HTS.out.trans ht2)
                  have HGR2 := Lib.hid (show Grows (4097 * (q + 1)) (14 * (q + 1)) (18 * (q + 1)) R S.tick from (HGR.out.trans (grows_tick HOKS.out.n7)).le)
                  clear hr2 ht2
                  go_wp2_with fail
                  go_roundw
                  case rel => exact ⟨q + 1, S.tick, N2, by go_num, by omega, HR2.out, HT2.out, ok_tick HOKS.out, HTL.out.trans (tells_tick HOKS.out), HGR2.out⟩
                  case measure => simp [intOf]; omega
                · have t2 : decide ((q : Int) < 70) = false := decide_eq_false (by omega)
                  clear hqn
                  go_wp2_with fail
                  go_meet
                  exact ⟨S, N, H, ha, hc, ns, na, nc, rfl, rfl, HF.out⟩
              · have t1 : decide ((q : Int) < m.n) = false := decide_eq_false hqn
                clear hqn
                go_wp2_with fail
                go_meet
                exact ⟨S, N, H, ha, hc, ns, na, nc, rfl, rfl, HF.out⟩
          have t0 : (m.d == 0) = false := by simpa using d0
          clear d0
          by_cases d1 : m.d = 1
          · have t1 : (m.d == 1) = true := by simpa using d1
            clear d1
            go_wp2_with fail
            clear g0 g1 g2 g3 g4 g5 g6 g7 g8 g9 g10
            refine (raftHandle p R M1 m.n m.x m.ia m.ic m.ms m.ba m.bc HL.out.ok (by have := (greatL_no HGM.out.1).1; omega) (by rw [HL.out.nw]; simp) (by have := HL.out.ol; omega) _ HRA.out (lfar HLET.out (by omega) HL.out.own)).mono ?_
            rintro e wy ⟨rfl, N2, hr2, ht2⟩
            have HF := Lib.hid (HL.out.act hr2 ((RTouch.ofBelow HBA.out).trans ht2) (ok_handle HL.out.ok _ _) ((tells_handle HL.out.ok m.n m.x).imp id (fun h9 => ⟨h9, handle_me HL.out.ok _ _⟩)) (grows_handle9 HL.out.ok m.n m.x (fun it hit => by
              rw [← HLET.out.eq, List.mem_map] at hit
              obtain ⟨y, hy, rfl⟩ := hit
              exact (greatL_no HGM.out.1).2.2 y hy)).le)
            clear hr2 ht2
            go_wp2_with fail
            go_meet
            exact ⟨_, N2, H, ha, hc, ns, na, nc, rfl, rfl, HF.out⟩
          have t1 : (m.d == 1) = false := by simpa using d1
          clear d1
          by_cases d2 : m.d = 2
          · have t2 : (m.d == 2) = true := by simpa using d2
            clear d2
            go_wp2_with fail
            clear g0 g1 g2 g3 g4 g5 g6 g7 g8 g9 g10
            refine (raftPropose p R M1 m.a m.c m.b HL.out.ok.n1 HL.out.ok.n7 HL.out.ok.me0 HL.out.ok.men HL.out.ok.line HL.out.ok.xs (by rw [HL.out.nw]; simp) (by have := HL.out.ol; omega) _ (HMB.out.mono (by omega)) HRA.out).mono ?_
            rintro e wy ⟨rfl, N2, hr2, ht2⟩
            have HF := Lib.hid (HL.out.act hr2 ((RTouch.ofBelow HBA.out).trans ht2) (ok_propose HL.out.ok _) (.inl (tells_propose HL.out.ok m.b)) ((grows_propose HL.out.ok.n7 m.b).le (h3 := by have := HGM.out.2; omega)))
            clear hr2 ht2
            go_wp2_with fail
            go_meet
            exact ⟨_, N2, H, ha, hc, ns, na, nc, rfl, rfl, HF.out⟩
          have t2 : (m.d == 2) = false := by simpa using d2
          clear d2
          by_cases d3 : m.d = 3
          · have t3 : (m.d == 3) = true := by simpa using d3
            clear d3
            go_wp2_with fail
            clear g0 g1 g2 g3 g4 g5 g6 g7 g8 g9 g10
            refine (raftNextU p R M1 HL.out.ok _ HRA.out).mono ?_
            rintro e wy ⟨v1, v2, v3, N2, rfl, hr2, ht2⟩
            have HF := Lib.hid (HL.out.act hr2 ((RTouch.ofBelow HBA.out).trans ht2) (ok_next HL.out.ok) (.inl (tells_next R)) (grows_next R).le)
            clear hr2 ht2
            go_wp2_with fail
            go_meet
            exact ⟨_, N2, H, ha, hc, ns, na, nc, rfl, rfl, HF.out⟩
          have t3 : (m.d == 3) = false := by simpa using d3
          clear d3
          by_cases d4 : m.d = 4
          · have t4 : (m.d == 4) = true := by simpa using d4
            clear d4
            go_wp2_with fail
            clear g0 g1 g2 g3 g4 g5 g6 g7 g8 g9 g10
            refine (raftCompact p R M1 m.b m.a m.c HL.out.ok _ (HMB.out.mono (by omega)) (fun hp ad e hq => by
              obtain ⟨b9, o9, e2, hl9, -⟩ := HMB.out.hat hp
              rw [e] at e2; injection e2 with e2; subst e2
              have := HL.out.own _ hq
              simp only at this; omega) HRA.out).mono ?_
            rintro e wy ⟨rfl, N2, hr2, ht2⟩
            obtain ⟨cb, hcb⟩ : ∃ cb, (R.compact m.b).2 = cb := ⟨_, rfl⟩
            rw [hcb]
            have HCS := Lib.hid (compact_same R m.b)
            have HCB := Lib.hid hcb
            have HR2 := Lib.hid hr2
            have HT2 := Lib.hid ht2
            clear hr2 ht2 hcb
            cases cb with
            | false =>
              have HF := Lib.hid (HL.out.act HR2.out ((RTouch.ofBelow HBA.out).trans HT2.out) (ok_compact HL.out.ok _) (.inl (by rw [HCS.out.2.2.2.2.2.2 HCB.out]; exact .refl _)) (by rw [HCS.out.2.2.2.2.2.2 HCB.out]; exact (Grows.refl R).le))
              go_wp2_with fail
              go_meet
              exact ⟨_, N2, H, ha, hc, ns, na, nc, rfl, rfl, HF.out⟩
            | true =>
              obtain ⟨R5, hR5⟩ : ∃ R5, R5 = (R.compact m.b).1 := ⟨_, rfl⟩
              have HOK5 := Lib.hid (show R5.Ok by rw [hR5]; exact ok_compact HL.out.ok _)
              have HR5 := Lib.hid hR5
              have hsz5 : (putItems R5.line.l).length ≤ 216000 := by rw [hR5]; have := HCS.out.2.2.2.2.2.1; have := HL.out.sz; omega
              have HFIT := Lib.hid (show R5.Fit 216000 from ⟨HOK5.out.bt0, HOK5.out.bt1, HOK5.out.bf0, HOK5.out.bf1, HOK5.out.line, HOK5.out.st, hsz5⟩)
              rw [← hR5] at HR2
              clear hR5
              go_wp2_with fail
              refine (raftHead p R5 N2 HOK5.out.bt0 HOK5.out.bt1 HOK5.out.bf0 HOK5.out.bf1 HOK5.out.line (by have := HFIT.out.put; omega) (by have := HOK5.out.st; omega) _ HR2.out).mono ?_
              rintro e wz ⟨a6, c6, rfl, hby6, hb6, -⟩
              have HF := Lib.hid (HL.out.headed HR2.out ((RTouch.ofBelow HBA.out).trans HT2.out) HOK5.out (by rw [HR5.out]; exact HCS.out.1) (by rw [HR5.out]; exact HCS.out.2.1) (by rw [HR5.out]; exact HCS.out.2.2.1.trans HL.out.jp) (by rw [HR5.out]; exact HCS.out.2.2.2.1.trans HL.out.nw) (by rw [HR5.out]; exact HCS.out.2.2.2.2.1) (by rw [HR5.out]; exact HCS.out.2.2.2.2.2.1) (by omega) hb6 hby6)
              clear hby6 hb6
              go_wp2_with fail
              go_meet
              exact ⟨_, N2, R5.head, a6, c6, [], none, 0, rfl, rfl, HF.out⟩
          have t4 : (m.d == 4) = false := by simpa using d4
          clear d4
          go_wp2_with fail
          go_meet
          exact ⟨_, M1, H, ha, hc, ns, na, nc, rfl, rfl, HNO.out⟩
        case rest =>
          obtain ⟨R2, M2, H2, ha2, hc2, ns2, na2, nc2, rfl, rfl, hla⟩ := hcut
          have HLA := Lib.hid hla
          clear hla
          go_wp2_with fail
          refine (raftJumpU HLA.out.rf).mono ?_
          rintro e w5 ⟨jb, sa, sn, sc, M5, hjb, rfl, hr5, ht5⟩
          have HJB := Lib.hid hjb
          clear hjb
          have HR5 := Lib.hid hr5
          have HT5 := Lib.hid ht5
          clear hr5 ht5
          go_upto_if 94 with fail
          go_cut [10, 11] (fun s10 s11 wc => ∃ (R' : PRaft) (M' : RMem) (H' : List UInt8) (ha' : Option Addr) (hc' : Nat) (ns' : List MNote) (na' : Option Addr) (nc' : Nat), s10 = .slice ha' H'.length hc' ∧ s11 = .slice na' ns'.length nc' ∧ LsA wo wc p i k j R' M' H' ha' hc' ns' na' nc' ∧ R'.jumped = false)
          case first =>
            cases jb with
            | false =>
              have hjp := HJB.out
              have hjr : R2.jump.1 = R2 := by unfold PRaft.jump; rw [if_neg (by rw [hjp]; decide)]
              have HF := Lib.hid (HLA.out.still (by rw [← hjr]; exact HR5.out) HT5.out)
              have HJP := Lib.hid hjp
              clear hjr hjp
              go_wp2_with fail
              go_meet
              exact ⟨R2, M5, H2, ha2, hc2, ns2, na2, nc2, rfl, rfl, HF.out, HJP.out⟩
            | true =>
              have hjp := HJB.out
              have hjr : R2.jump.1 = { R2 with jumped := false, news := [] } := by unfold PRaft.jump; rw [if_pos hjp]
              have HR6 := Lib.hid (show RfAt w5 p { R2 with jumped := false, news := [] } M5 by rw [← hjr]; exact HR5.out)
              have HJP := Lib.hid hjp
              clear hjr hjp
              go_wp2_with fail
              refine (raftHead p { R2 with jumped := false, news := [] } M5 HLA.out.ok.bt0 HLA.out.ok.bt1 HLA.out.ok.bf0 HLA.out.ok.bf1 HLA.out.ok.line (HLA.out.sizes (by omega)).2.1 (HLA.out.sizes (by omega)).2.2 _ HR6.out).mono ?_
              rintro e w6 ⟨a6, c6, rfl, hby6, hb6, -⟩
              have HF := Lib.hid (HLA.out.jump (by omega) HJP.out HR6.out HT5.out hb6 hby6)
              clear hby6 hb6
              go_wp2_with fail
              go_meet
              exact ⟨_, M5, R2.head, a6, c6, [], none, 0, rfl, rfl, HF.out, rfl⟩
          case rest =>
            obtain ⟨R3, M3, H3, ha3, hc3, ns3, na3, nc3, rfl, rfl, hla3, hjp3⟩ := hcut
            have HL3 := Lib.hid hla3
            have HJ3 := Lib.hid hjp3
            clear hla3 hjp3
            go_wp2_with fail
            refine (raftNews HL3.out.rf).mono ?_
            rintro e w6 ⟨rfl, rfl⟩
            obtain ⟨w6, hw6⟩ : ∃ w6, w6 = wc.setCell ⟨p, 33, none⟩ (.slice none 0 0) := ⟨_, rfl⟩
            have HNT := Lib.hid (fun (w7 : World) (a : Option Addr) (c : Nat) => HL3.out.noted (w7 := w7) (a := a) (c := c))
            have hown6 : w6.ownsRow 0 27 1 (.slice M3.na M3.ns.length M3.nc) M3.ns.length (M3.ns.map MNote.cell) := by
              rw [hw6]
              exact own_mv9 HL3.out.rf.nw fun g hg9 => Below.heap_setCell _ _ _ g (fun e9 => by
                rw [ownBlock_eq, e9] at hg9
                exact HL3.out.rf.apart.2.2.1 hg9)
            have hke6 : w6.ownsRow wo.heap.size 27 1 (.slice na3 ns3.length nc3) ns3.length (ns3.map MNote.cell) := by
              rw [hw6]
              exact (HL3.out.ke.touch HL3.out.rf HL3.out.rf.clearNews.2).nr
            have HSL := Lib.hid (show SlAt w6 w6.heap.size 1 M3.na M3.ns.length M3.nc (M3.ns.map MNote.cell) by
              obtain ⟨a9, c9, e9, h9⟩ := SlAt.ofOwns hown6
              injection e9 with e1 _ e3
              subst e1 e3
              exact h9)
            have HKE := Lib.hid hke6
            have hs6 : wo.heap.size ≤ w6.heap.size := by rw [hw6]; simpa using HL3.out.bel.size
            have HNL := Lib.hid (show ns3.length + M3.ns.length ≤ 30000000 ∧ M3.ns.map MNote.b = R3.news by
              refine ⟨?_, HL3.out.rf.nq⟩
              have h1 := HL3.out.nl
              have h2 := HL3.out.nw
              rw [← HL3.out.rf.nq, List.length_map] at h2
              omega)
            have hnl := HNL.out.1
            have HOC := Lib.hid (show ∀ u ∈ M3.ns.map MNote.cell, u.oneCell' = true from fun u hu => by
              rw [List.mem_map] at hu
              obtain ⟨y, -, rfl⟩ := hu
              rfl)
            obtain ⟨i0, hi, hz0, hz1, hz2⟩ := info_parts infoBytes9
            rw [← hw6]
            rw [← hw6] at HNT
            clear hw6 hown6 hke6
            go_wp2_with (at_builtin; refine wpList_append_sl _ rfl _ _ 29 rfl wo.heap.size 27 i0 (.slice none 0 0) 1 24 Tryz.underlying29 hi hz0 hz1 hz2 rfl (by decide) _ _ _ rfl HKE.out w6.heap.size M3.na M3.ns.length M3.nc (M3.ns.map MNote.cell) rfl HSL.out HOC.out ?c1 ?c2 ?c3 ?_)
            case c1 => unfold maxLen; omega
            case c2 => omega
            case c3 => exact hs6
            intro a7 c7 w7 hown7 hgrow7 hat7
            obtain ⟨hr7, hb7, hk7⟩ := HNT.out w7 a7 c7 hown7 hgrow7 hat7
            obtain ⟨M4, hM4⟩ : ∃ M4 : RMem, M4 = { M3 with na := none, nc := 0, ns := [] } := ⟨_, rfl⟩
            obtain ⟨R4, hR4⟩ : ∃ R4 : PRaft, R4 = { R3 with news := [] } := ⟨_, rfl⟩
            obtain ⟨ns4, hns4⟩ : ∃ ns4, ns4 = ns3 ++ M3.ns := ⟨_, rfl⟩
            rw [← hM4, ← hR4] at hr7
            rw [← hM4, ← hns4] at hk7
            have hlen4 : ns3.length + M3.ns.length = ns4.length := by rw [hns4]; simp
            have hnl4 : ns4.length ≤ 30000000 := by omega
            have hnl5 : ns4.length ≤ 400000 * (j + 1) := by
              have h1 := HL3.out.nl
              have h2 := HL3.out.nw
              rw [← HL3.out.rf.nq, List.length_map] at h2
              omega
            rw [hlen4] at hown7 ⊢
            have HR7 := Lib.hid hr7
            have HB7 := Lib.hid hb7
            have HK7 := Lib.hid hk7
            have HOK4 := Lib.hid (show R4.Ok by rw [hR4]; exact HL3.out.ok.nws [])
            have HME4 := Lib.hid (show R4.me = i ∧ R4.n = k ∧ R4.jumped = false ∧ R4.news = [] ∧ R4.out = R3.out ∧ R4.line = R3.line ∧ R4.state = R3.state by rw [hR4]; exact ⟨HL3.out.me, HL3.out.n, HJ3.out, rfl, rfl, rfl, rfl⟩)
            have HKP4 := Lib.hid (show ((loadH (PRaft.new i k) H3).bind fun S => S.loads (ns4.map MNote.b)) = some R4.bare by
              rcases HL3.out.kp with h9 | h9
              · rw [HJ3.out] at h9; cases h9
              · have h8 := h9.2
                rw [← HNL.out.2, ← List.map_append, ← hns4] at h8
                rw [h8, hR4]; rfl)
            have HOW4 := Lib.hid (show ∀ q, M4.own p q → wo.heap.size ≤ q from fun q hq => by
              rw [hM4] at hq
              rcases hq with e | e | e | e | e
              · exact HL3.out.own q (.inl e)
              · exact HL3.out.own q (.inr (.inl e))
              · exact HL3.out.own q (.inr (.inr (.inl e)))
              · cases e
              · exact HL3.out.own q (.inr (.inr (.inr (.inr e)))))
            clear hr7 hb7 hk7 hown7 hgrow7 hat7 hM4 hR4 hns4 hlen4 hi hz0 hz1 hz2 HNT HKE HSL HOC
            have HSZ4 := Lib.hid (show R4.line.put.length ≤ 900000 ∧ R4.state.length ≤ 70000 by
              rw [HME4.out.2.2.2.2.2.1, HME4.out.2.2.2.2.2.2]; exact (HL3.out.sizes (by omega)).2)
            have HSL7 := Lib.hid (show SlAt w7 w7.heap.size 1 a7 ns4.length c7 (ns4.map MNote.cell) by
              obtain ⟨a9, c9, e9, h9⟩ := SlAt.ofOwns HK7.out.nr
              injection e9 with e1 _ e3
              subst e1 e3
              exact h9)
            go_wp2_with fail
            refine (raftLoad i k hkb.1 hkb.2 hib.1 hib.2 H3 ha3 hc3 ns4 a7 c7 (by omega) _ HK7.out.hd.1 HSL7.out (fun m hm => (HK7.out.nb m hm).1)).mono ?_
            rintro e w8 ⟨hb8, hm8⟩
            have hX : loadP i k H3 (ns4.map MNote.b) = some R4.bare.base := by
              unfold loadP
              have h9 := HKP4.out
              cases hA : loadH (PRaft.new i k) H3 with
              | none => rw [hA] at h9; cases h9
              | some S =>
                rw [hA] at h9
                have h9 : S.loads (ns4.map MNote.b) = some R4.bare := h9
                show (S.loads (ns4.map MNote.b)).map PRaft.base = _
                rw [h9]; rfl
            rw [hX] at hm8
            obtain ⟨p2, M9, rfl, hr8, ho8⟩ := hm8
            obtain ⟨X, hXX⟩ : ∃ X : PRaft, X = R4.bare.base := ⟨_, rfl⟩
            rw [← hXX] at hr8
            have HX := Lib.hid (show X.bt = R4.bt ∧ X.bf = R4.bf ∧ X.line = R4.line ∧ X.state = R4.state ∧ X.role = 0 ∧ X.out = [] ∧ X.news = [] ∧ X.head = R4.head by rw [hXX]; exact ⟨rfl, rfl, rfl, rfl, rfl, rfl, rfl, rfl⟩)
            have HRX := Lib.hid hr8
            have HOX := Lib.hid ho8
            have HR8 := Lib.hid (HR7.out.below hb8)
            have HK8 := Lib.hid (HK7.out.touch HR7.out (.ofBelow hb8))
            have HB8 := Lib.hid (HB7.out.trans (hb8.mono HB7.out.size))
            have hs7 := HB7.out.size
            have hs8 := hb8.size
            have HB78 := Lib.hid hb8
            clear hX hr8 ho8 hb8 hXX
            go_wp2_with fail
            refine (raftHead p2 X M9 (by rw [HX.out.1]; exact HOK4.out.bt0) (by rw [HX.out.1]; exact HOK4.out.bt1) (by rw [HX.out.2.1]; exact HOK4.out.bf0) (by rw [HX.out.2.1]; exact HOK4.out.bf1) (by rw [HX.out.2.2.1]; exact HOK4.out.line) (by rw [HX.out.2.2.1]; exact HSZ4.out.1) (by rw [HX.out.2.2.2.1]; exact HSZ4.out.2) _ HRX.out).mono ?_
            rintro e w9 ⟨a9, c9, rfl, hby9, hb9, -⟩
            have HBY9 := Lib.hid hby9
            have HRX9 := Lib.hid (HRX.out.below hb9)
            have HR9 := Lib.hid (HR8.out.below hb9)
            have HK9 := Lib.hid (HK8.out.touch HR8.out (.ofBelow hb9))
            have HB9 := Lib.hid (HB8.out.trans (hb9.mono HB8.out.size))
            have hs9 := hb9.size
            have HB79 := Lib.hid (show Below w7.heap.size w7 w9 from HB78.out.trans (hb9.mono HB78.out.size))
            clear hby9 hb9
            go_wp2_with fail
            refine (raftHead p R4 M4 HOK4.out.bt0 HOK4.out.bt1 HOK4.out.bf0 HOK4.out.bf1 HOK4.out.line HSZ4.out.1 HSZ4.out.2 _ HR9.out).mono ?_
            rintro e w10 ⟨a10, c10, rfl, hby10, hb10, -⟩
            have HBY10 := Lib.hid hby10
            have HBY9' := Lib.hid (HBY9.out.below hb10)
            have HRX10 := Lib.hid (HRX9.out.below hb10)
            have HR10 := Lib.hid (HR9.out.below hb10)
            have HK10 := Lib.hid (HK9.out.touch HR9.out (.ofBelow hb10))
            have HB10 := Lib.hid (HB9.out.trans (hb10.mono HB9.out.size))
            have hs10 := hb10.size
            have HB910 := Lib.hid (show Below w7.heap.size w7 w10 from HB79.out.trans (hb10.mono HB79.out.size))
            clear hby10 hb10
            go_wp2_with fail
            refine (r1Bytes X.head R4.head a9 a10 _ c9 _ c10 _ HBY9'.out.1 HBY10.out.1).mono ?_
            rintro e w11 ⟨rfl, hb11⟩
            rw [show decide (X.head = R4.head) = true from decide_eq_true HX.out.2.2.2.2.2.2.2]
            have HRX11 := Lib.hid (HRX10.out.below hb11)
            have HR11 := Lib.hid (HR10.out.below hb11)
            have HK11 := Lib.hid (HK10.out.touch HR10.out (.ofBelow hb11))
            have HB11 := Lib.hid (HB10.out.trans (hb11.mono HB10.out.size))
            have hs11 := hb11.size
            have HB711 := Lib.hid (show Below w7.heap.size w7 w11 from HB910.out.trans (hb11.mono HB910.out.size))
            clear hb11
            go_wp2_with fail
            refine (raftRole HRX11.out).mono ?_
            rintro e w12 ⟨rfl, rfl⟩
            rw [HX.out.2.2.2.2.1]
            go_wp2_with fail
            refine (raftOut HRX11.out).mono ?_
            rintro e w12 ⟨rfl, hw12⟩
            have hon : M9.on = 0 := by rw [HRX11.out.oq, HX.out.2.2.2.2.2.1]; rfl
            rw [hon]
            obtain ⟨ax12, bx12⟩ := HRX11.out.clearOut
            rw [← hw12] at ax12 bx12
            have hb12 : Below w7.heap.size w11 w12 := bx12.below HOX.out (by omega)
            have HRX12 := Lib.hid ax12
            have HTX12 := Lib.hid bx12
            have hs12 := hb12.size
            have hn8 : ({ M9 with oa := none, on := 0, oc := 0, ocs := [], ps := [] } : RMem).ns.length = 0 := by
              have h9 := ax12.nq
              have h8 : ({ X with out := [] } : PRaft).news = [] := HX.out.2.2.2.2.2.2.1
              rw [h8, List.map_eq_nil_iff] at h9
              rw [h9]; rfl
            clear hon ax12 bx12 hw12
            go_wp2_with fail
            refine (raftNews HRX12.out).mono ?_
            rintro e w13 ⟨rfl, hw13⟩
            rw [hn8]
            obtain ⟨ax13, bx13⟩ := HRX12.out.clearNews
            rw [← hw13] at bx13
            have hb13 : Below w7.heap.size w12 w13 := bx13.below (HTX12.out.inn HOX.out (by omega)) (by omega)
            have hb713 : Below w7.heap.size w7 w13 := HB711.out.trans (hb12.trans hb13)
            have HNXT := Lib.hid (show LsL wo w13 p i k (j + 1) R4 M4 H3 ha3 hc3 ns4 a7 c7 from
              ⟨HR7.out.below hb713, HB7.out.trans (hb713.mono HB7.out.size), HOW4.out, HOK4.out, HME4.out.1, HME4.out.2.1, HME4.out.2.2.1, HME4.out.2.2.2.1, HK7.out.touch HR7.out (.ofBelow hb713), HKP4.out, by rw [HME4.out.2.2.2.2.1]; have := HL3.out.ol; omega, hnl5, by rw [HME4.out.2.2.2.2.2.1]; exact HL3.out.sz⟩)
            clear hn8 hb12 hb13 hb713 hw13 ax13 bx13
            go_wp2_with fail
            go_roundg (gk - 1)
            case measure => have := HGK.out; omega
            case rel => exact ⟨j + 1, R4, M4, H3, ha3, hc3, ns4, a7, c7, by have := HGK.out; omega, rfl, rfl, by go_num, HNXT.out⟩
      · have tj : decide ((j : Int) < (l.length : Int)) = false := by simp; omega
        have tjn : decide (j < l.length) = false := by simp; omega
        have HBF := Lib.hid HL.out.bel
        go_wp2_with fail
        refine (l18awake _).mono ?_
        rintro e w9 ⟨rfl, hb9⟩
        have HB9 := Lib.hid (HBF.out.trans (hb9.mono HBF.out.size))
        clear hb9
        go_wp2
        go_ret
        exact ⟨rfl, by rw [← HWO.out]; exact HB9.out⟩
end Go.Proofs.YtogcnfhmcpkdcaaGreat
