/-
  Contract of Line.Join.
-/
import Derived.Test.YtogcnfhmcpkdcaaLine3
namespace Go.Proofs.Ytogcnfhmcpkdcaa
open Go.RowKit
set_option linter.unusedVariables false
set_option linter.unusedSimpArgs false

theorem ItemsAt.from_ {w : World} {B : Nat} {a : Option Addr} {n c : Nat} {ms : List MItem} (h : ItemsAt w B a n c ms) {k : Nat} (hk : k ≤ n) : ItemsAt w B (if c = k then a else a.map (·.add (k * 2))) (n - k) (c - k) (ms.drop k) :=
  ⟨by rw [← cellsM_drop]; exact h.sl.from_ hk, fun m hm => h.bs m (List.mem_of_mem_drop hm)⟩

theorem blk_ne {p c k : Nat} {a : Option Addr} (h : ∀ ad, a = some ad → ad.block ≠ p) : ∀ ad, (if c = k then a else a.map (·.add (k * 2))) = some ad → ad.block ≠ p := by
  intro ad e
  by_cases hc : c = k
  · rw [if_pos hc] at e; exact h ad e
  · rw [if_neg hc] at e
    cases a with
    | none => simp at e
    | some a' =>
      simp at e
      subst e
      have := h a' rfl
      unfold Addr.add
      split <;> exact this

/-- items behind a turning of the line's block: they lie elsewhere -/
theorem ItemsAt.turned {w w' : World} {B p : Nat} {a : Option Addr} {n c : Nat} {ms : List MItem} (h : ItemsAt w B a n c ms) (ht : ∀ k, k < B → k ≠ p → w'.heap[k]? = w.heap[k]?) (hne : ∀ ad, a = some ad → ad.block ≠ p)
    {i j : Int} {v : Value} {T : TypeId} (hv : ∀ z : Int, v ≠ .int .u8 z) (hrow : w.heap[p]? = some (.cells #[.int .i64 i, .int .i64 j, v] T (0, 0))) : ItemsAt w' B a n c ms := by
  refine ⟨⟨h.sl.hlen, h.sl.hle, h.sl.hmax, h.sl.hnil, fun hp => ?_⟩, fun m hm => ?_⟩
  · obtain ⟨b, o, e, hb, hc⟩ := h.sl.hat hp
    exact ⟨b, o, e, hb, fun i hi => (World.cell?_of_block (a := ⟨b, o + i, none⟩) (ht b hb (hne _ e))).trans (hc i hi)⟩
  · have hbs := h.bs m hm
    refine ⟨hbs.hlen, hbs.hle, hbs.hmax, hbs.hnil, hbs.hbig, fun hp => ?_⟩
    obtain ⟨b, o, e, hb, hc⟩ := hbs.hat hp
    have hbp : b ≠ p := by
      intro e2
      have h0 := hc 0 hp
      rw [e2, cell_of_row _ _ _ _ _ _ hrow] at h0
      match o, h0 with
      | 0, h0 => simp at h0
      | 1, h0 => simp at h0
      | 2, h0 => simp at h0; exact hv _ h0
      | n + 3, h0 => simp at h0
    exact ⟨b, o, e, hb, fun i hi => (World.cell?_of_block (a := ⟨b, o + i, none⟩) (ht b hb hbp)).trans (hc i hi)⟩

/-- the first loop of Join, at a round's head -/
structure JoinAt (x : PLine) (prev : Int) (js : List MItem) (w : World) (p : Nat) (wr : World) (k : Nat) (r : List MItem) (a : Option Addr) (c : Nat) : Prop where
  le : k ≤ js.length
  hr : r = js.drop k
  ub : prev + k ≤ x.last
  df : x.diff (prev + 1) (js.map MItem.it) = x.diff (prev + 1 + k) (r.map MItem.it)
  its : ItemsAt wr w.heap.size a r.length c r
  ne : 0 < r.length → ∀ ad, a = some ad → ad.block ≠ p
  bel : Below w.heap.size w wr

theorem JoinAt.below {x : PLine} {prev : Int} {js : List MItem} {w : World} {p : Nat} {wr w' : World} {k : Nat} {r : List MItem} {a : Option Addr} {c : Nat} (h : JoinAt x prev js w p wr k r a c) (hb : Below wr.heap.size wr w') : JoinAt x prev js w p w' k r a c :=
  ⟨h.le, h.hr, h.ub, h.df, h.its.below (hb.mono h.bel.size) (Nat.le_refl _), h.ne, h.bel.trans (hb.mono h.bel.size)⟩

theorem JoinAt.step {x : PLine} {prev : Int} {js : List MItem} {w : World} {p : Nat} {wr : World} {k : Nat} {m : MItem} {r1 : List MItem} {a : Option Addr} {c : Nat} (h : JoinAt x prev js w p wr k (m :: r1) a c)
    (hm : prev + 1 + k ≤ x.base ∨ x.tm (prev + 1 + k) = m.t) (hl : prev + 1 + k ≤ x.last) : JoinAt x prev js w p wr (k + 1) r1 (if c = 1 then a else a.map (·.add (1 * 2))) (c - 1) := by
  have hk : k < js.length := by
    have := congrArg List.length h.hr
    simp at this
    omega
  have hr1 : r1 = js.drop (k + 1) := by
    have h9 := h.hr
    rw [List.drop_eq_getElem_cons hk] at h9
    exact (List.cons.inj h9).2
  refine ⟨by omega, hr1, by omega, ?_, ?_, fun _ => blk_ne (h.ne (by simp)), h.bel⟩
  · rw [h.df, List.map_cons, PLine.diff_step (by simp) (by simpa using hm)]
    simp only [List.drop_succ_cons, List.drop_zero]
    rw [show prev + 1 + (k : Int) + 1 = prev + 1 + ((k + 1 : Nat) : Int) by omega]
  · have := h.its.from_ (k := 1) (by simp)
    simpa using this

/-- the second loop of Join, at a round's head -/
structure FillAt (x : PLine) (keep : Nat) (rr : List MItem) (w : World) (base p : Nat) (ja : Option Addr) (jc : Nat) (wr : World) (i : Nat) (la : Option Addr) (lc : Nat) (ms : List MItem) : Prop where
  le : i ≤ rr.length
  ln : LnAt wr base p ⟨x.base, x.term, x.l.take keep ++ (rr.take i).map MItem.it⟩ la lc ms
  tu : Turned p none w wr
  nw : ∀ g, (Value.slice la ms.length lc).ownBlock = some g → w.heap.size ≤ g
  its : ItemsAt wr w.heap.size ja rr.length jc rr

theorem FillAt.next {x : PLine} {keep : Nat} {rr : List MItem} {w : World} {base p : Nat} {ja : Option Addr} {jc : Nat} {yr : World} {i : Nat} {la : Option Addr} {lc : Nat} {ms : List MItem} (h : FillAt x keep rr w base p ja jc yr i la lc ms) {mi mx : MItem} (hmi : rr[i]? = some mi) {W : World} {a4 : Option Addr} {c4 N : Nat}
    (hT : Turned p (Value.slice la ms.length lc).ownBlock yr W) (hln : LnAt W base p ⟨x.base, x.term, x.l.take keep ++ (rr.take i).map MItem.it ++ [mi.it]⟩ a4 c4 (ms ++ [mx])) (hN : w.heap.size ≤ N) (hw : w.heap.size ≤ yr.heap.size)
    (hat : (Value.slice a4 (ms.length + 1) c4).ownBlock = (Value.slice la ms.length lc).ownBlock ∨ (Value.slice a4 (ms.length + 1) c4).ownBlock = some N) (hne : ∀ ad, ja = some ad → ad.block ≠ p) : FillAt x keep rr w base p ja jc W (i + 1) a4 c4 (ms ++ [mx]) := by
  have hl : i < rr.length := (List.getElem?_eq_some_iff.1 hmi).1
  have e : rr[i] = mi := by simpa [List.getElem?_eq_getElem hl] using hmi
  refine ⟨by omega, ?_, h.tu.trans hT (.inr h.nw), fun g hg => ?_, ?_⟩
  · rw [List.take_succ_eq_append_getElem hl, List.map_append, ← List.append_assoc, e]
    exact hln
  · rw [show (ms ++ [mx]).length = ms.length + 1 by simp] at hg
    rcases hat with h9 | h9
    · exact h.nw g (h9.symm.trans hg)
    · rw [h9] at hg; injection hg with e9; omega
  · refine h.its.turned (fun k hk hkp => hT.block k (by omega) hkp (fun e9 => ?_)) hne (fun z e9 => by cases e9) h.ln.row
    have := h.nw k e9.symm
    omega

theorem anyBad_map (ms : List MItem) : ((ms.map MItem.it).any fun it => !rightI it) = anyBad ms := by
  unfold anyBad
  rw [List.any_map]; rfl

theorem anyBad_get {ms : List MItem} (h : anyBad ms = false) {m : MItem} (hm : m ∈ ms) : rightI m.it = true := by
  unfold anyBad at h
  rw [List.any_eq_false] at h
  have := h m hm
  simpa using this
end Go.Proofs.Ytogcnfhmcpkdcaa
