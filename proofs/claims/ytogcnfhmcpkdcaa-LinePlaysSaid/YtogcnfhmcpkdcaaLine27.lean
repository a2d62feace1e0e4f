/-
  The state of the law LinePlays: the program's line and the document's, side by side.
-/
import Derived.Test.YtogcnfhmcpkdcaaLine12
import Derived.Test.YtogcnfhmcpkdcaaLine25
namespace Go.Proofs.Ytogcnfhmcpkdcaa
open Go.RowKit
set_option linter.unusedVariables false
set_option linter.unusedSimpArgs false

theorem ne_types2 : (88 : Nat) ≠ 167 ∧ (88 : Nat) ≠ 45 ∧ (88 : Nat) ≠ 5 := by decide

theorem own_moved {w w' : World} {base e size n : Nat} {v : Value} {xs : List Value} (h : w.ownsRow base e size v n xs) (hb : ∀ g cur, v.ownBlock = some g → w.heap[g]? = some (.cells cur e (0, 0)) → w'.heap[g]? = w.heap[g]?) : w'.ownsRow base e size v n xs := by
  refine ⟨h.1, ?_⟩
  rcases h.2 with ⟨e, hn⟩ | ⟨g, cap, cur, e, h1, h2, h3, h4, h5, h6⟩
  · exact .inl ⟨e, hn⟩
  · exact .inr ⟨g, cap, cur, e, h1, (hb g cur (by rw [e]; rfl) h2).trans h2, h3, h4, h5, h6⟩

theorem LineAt.mono {w : World} {base B p : Nat} {x : PLine} {la : Option Addr} {lc : Nat} {ms : List MItem} (h : LnAt w base p x la lc ms) (hB : B ≤ base) : LnAt w B p x la lc ms :=
  ⟨h.row, World.ownsRow.mono h.own hB, h.its, h.bs, by have := h.pb; omega⟩

/-- a line behind a turning of blocks that are not its own -/
theorem LineAt.moved {w w' : World} {base p : Nat} {x : PLine} {la : Option Addr} {lc : Nat} {ms : List MItem} (h : LnAt w base p x la lc ms) (hs : w.heap.size ≤ w'.heap.size)
    (hp : ∀ cs, w.heap[p]? = some (.cells cs 167 (0, 0)) → w'.heap[p]? = w.heap[p]?) (ho : ∀ g cur, (Value.slice la ms.length lc).ownBlock = some g → w.heap[g]? = some (.cells cur 45 (0, 0)) → w'.heap[g]? = w.heap[g]?)
    (hu : ∀ k cs fr, k < w.heap.size → w.heap[k]? = some (.cells cs 5 fr) → w'.heap[k]? = w.heap[k]?) : LnAt w' base p x la lc ms :=
  ⟨(hp _ h.row).trans h.row, own_moved h.own ho, h.its, fun m hm => (h.bs m hm).grown (T := 5) hu hs, h.pb⟩

theorem ty_ne {w : World} {k : Nat} {cs cs' : Array Value} {T T' : TypeId} {fr fr' : Nat × Nat} (h : w.heap[k]? = some (.cells cs T fr)) (h' : w.heap[k]? = some (.cells cs' T' fr')) (hne : (T : Nat) ≠ T') : False := by
  rw [h] at h'
  injection h' with h'
  injection h' with _ e _
  exact hne e

/-- a line behind a turning of another one -/
theorem LineAt.other {w w' : World} {base p base2 p2 : Nat} {x x2 : PLine} {la la2 : Option Addr} {lc lc2 : Nat} {ms ms2 : List MItem} (h : LnAt w base p x la lc ms) (h2 : LnAt w base2 p2 x2 la2 lc2 ms2)
    (hne : p2 ≠ p) (hno : ∀ g, (Value.slice la2 ms2.length lc2).ownBlock = some g → (Value.slice la ms.length lc).ownBlock ≠ some g) (ht : Turned p (Value.slice la ms.length lc).ownBlock w w') : LnAt w' base2 p2 x2 la2 lc2 ms2 := by
  refine h2.moved ht.size (fun cs hc => ?_) (fun g cur hg hc => ?_) (fun k cs fr hk hc => ?_)
  · refine ht.block p2 h2.lt hne (fun e => ?_)
    obtain ⟨cur, h9⟩ := own_block h.own e.symm
    exact ty_ne h9 hc ne_types.1
  · refine ht.block g (Array.getElem?_eq_some_iff.1 hc).1 (fun e => ?_) (fun e => hno g hg e.symm)
    subst e
    exact ty_ne hc h.row ne_types.1
  · refine ht.block k hk (fun e => ?_) (fun e => ?_)
    · subst e
      exact ty_ne h.row hc ne_types.2.2
    · obtain ⟨cur, h9⟩ := own_block h.own e.symm
      exact ty_ne h9 hc ne_types.2.1

/-- the program's line X at block q, the document's line Y in the box g; what the document's line holds lies apart -/
structure PS (w0 : World) (g : Nat) (wr : World) (q : Nat) (X : PLine) (la : Option Addr) (lc : Nat) (ms : List MItem) (Y : PLine) (ra : Option Addr) (rc : Nat) (rs : List MItem) : Prop where
  ln : LnAt wr w0.heap.size q X la lc ms
  rx : RAt wr wr.heap.size Y ra rc rs
  ap : ∀ ad, ra = some ad → ad.block ≠ q ∧ (Value.slice la ms.length lc).ownBlock ≠ some ad.block ∧ ad.block ≠ g ∧ ad.block < wr.heap.size
  inp : ∀ m ∈ rs, m.Bs wr w0.heap.size
  bel : Below w0.heap.size w0 wr
  row : wr.heap[g]? = some (.cells #[.int .i64 Y.base, .int .i64 Y.term, .slice ra rs.length rc] 88 (0, 0))
  gb : w0.heap.size ≤ g

/-- blocks that are no line's and no items' stay -/
def RowsKept (wr W : World) : Prop := wr.heap.size ≤ W.heap.size ∧ ∀ (k : Nat) (cs : Array Value) (T : TypeId), wr.heap[k]? = some (Obj.cells cs T (0, 0)) → (T : Nat) ≠ 167 → (T : Nat) ≠ 45 → W.heap[k]? = some (Obj.cells cs T (0, 0))
theorem RowsKept.of {wr W : World} {base q : Nat} {X : PLine} {la : Option Addr} {lc : Nat} {ms : List MItem} (h : LnAt wr base q X la lc ms) (ht : Turned q (Value.slice la ms.length lc).ownBlock wr W) : RowsKept wr W := by
  refine ⟨ht.size, fun k cs T hk h1 h2 => (ht.block k (Array.getElem?_eq_some_iff.1 hk).1 (fun e => ?_) (fun e => ?_)).trans hk⟩
  · rw [e] at hk; exact ty_ne hk h.row h1
  · obtain ⟨cur, h9⟩ := own_block h.own e.symm
    exact ty_ne hk h9 h2

section
variable {w0 : World} {g : Nat} {wr : World} {q : Nat} {X : PLine} {la : Option Addr} {lc : Nat} {ms : List MItem} {Y : PLine} {ra : Option Addr} {rc : Nat} {rs : List MItem}

theorem PS.below {W : World} (h : PS w0 g wr q X la lc ms Y ra rc rs) (hb : Below wr.heap.size wr W) : PS w0 g W q X la lc ms Y ra rc rs :=
  have hs := h.bel.size
  ⟨h.ln.below hb, (h.rx.below hb (Nat.le_refl _)).mono hb.size, fun ad e => let ⟨a1, a2, a3, a4⟩ := h.ap ad e; ⟨a1, a2, a3, Nat.lt_of_lt_of_le a4 hb.size⟩, fun m hm => (h.inp m hm).below hb hs, h.bel.trans (hb.mono hs), (hb.block _ (Array.getElem?_eq_some_iff.1 h.row).1).trans h.row, h.gb⟩

theorem PS.glt (h : PS w0 g wr q X la lc ms Y ra rc rs) : g < wr.heap.size := (Array.getElem?_eq_some_iff.1 h.row).1

/-- a slice that a call handed out, behind it -/
theorem PS.fresh (h : PS w0 g wr q X la lc ms Y ra rc rs) {W : World} (hs : wr.heap.size ≤ W.heap.size) {ra' : Option Addr} (hf : Fresh wr W ra ra') : ∀ ad, ra' = some ad → ad.block ≠ q ∧ (Value.slice la ms.length lc).ownBlock ≠ some ad.block ∧ ad.block ≠ g ∧ ad.block < W.heap.size := by
  rcases hf with rfl | hf
  · exact fun ad e => let ⟨a1, a2, a3, a4⟩ := h.ap ad e; ⟨a1, a2, a3, Nat.lt_of_lt_of_le a4 hs⟩
  · intro ad e
    obtain ⟨h1, h4⟩ := hf ad e
    have h2 := h.ln.lt
    have h3 := h.glt
    refine ⟨by omega, fun e9 => ?_, by omega, h4⟩
    have := (own_lt h.ln.own e9).2
    omega

/-- another line is laid into the document's box -/
theorem PS.setRef (h : PS w0 g wr q X la lc ms Y ra rc rs) {Y' : PLine} {ra' : Option Addr} {rc' : Nat} {rs' : List MItem} (hr : RAt wr wr.heap.size Y' ra' rc' rs')
    (hap : ∀ ad, ra' = some ad → ad.block ≠ q ∧ (Value.slice la ms.length lc).ownBlock ≠ some ad.block ∧ ad.block ≠ g ∧ ad.block < wr.heap.size) (hin : ∀ m ∈ rs', m.Bs wr w0.heap.size)
    {W : World} (hrow : W.heap[g]? = some (.cells #[.int .i64 Y'.base, .int .i64 Y'.term, .slice ra' rs'.length rc'] 88 (0, 0))) (hoth : ∀ k, k ≠ g → W.heap[k]? = wr.heap[k]?) (hb : Below g wr W) (hs : W.heap.size = wr.heap.size) :
    PS w0 g W q X la lc ms Y' ra' rc' rs' := by
  have hgb := h.gb
  have hb0 : Below w0.heap.size wr W := hb.mono hgb
  refine ⟨h.ln.moved (by omega) (fun cs hc => hoth _ fun e => ?_) (fun k cur hg hc => hoth _ fun e => ?_) (fun k cs fr hk hc => hoth _ fun e => ?_), ⟨⟨?_, ?_⟩, hr.eq⟩, fun ad e => by rw [hs]; exact hap ad e, fun m hm => (hin m hm).below hb0 (Nat.le_refl _), h.bel.trans hb0, hrow, hgb⟩
  · rw [e] at hc; exact ty_ne h.row hc ne_types2.1
  · rw [e] at hc; exact ty_ne h.row hc ne_types2.2.1
  · rw [e] at hc; exact ty_ne h.row hc ne_types2.2.2
  · have h9 := hr.its.sl
    refine ⟨h9.hlen, h9.hle, h9.hmax, h9.hnil, fun hp => ?_⟩
    obtain ⟨b, o, e, hb9, hc⟩ := h9.hat hp
    have hne := (hap _ e).2.2.1
    exact ⟨b, o, e, by omega, fun i hi => (World.cell?_of_block (a := ⟨b, o + i, none⟩) (hoth b hne)).trans (hc i hi)⟩
  · intro m hm
    have := h.bel.size
    exact ((hin m hm).below hb0 (Nat.le_refl _)).mono (by omega)

/-- the program's line is turned -/
theorem PS.turn (h : PS w0 g wr q X la lc ms Y ra rc rs) {W : World} {X' : PLine} (hl : LineTo w0.heap.size q X' (Value.slice la ms.length lc).ownBlock wr W) : ∃ la' lc' ms', PS w0 g W q X' la' lc' ms' Y ra rc rs ∧ RowsKept wr W := by
  obtain ⟨la', lc', ms', hn, ht, ho⟩ := hl
  have hsz := h.bel.size
  have hb : Below w0.heap.size wr W := ht.below h.ln.pb (fun k hk => (own_lt h.ln.own hk).1) hsz
  refine ⟨la', lc', ms', ⟨hn, ⟨⟨?_, fun m hm => ((h.inp m hm).below hb (Nat.le_refl _)).mono (by have := ht.size; omega)⟩, h.rx.eq⟩, fun ad e => ?_, fun m hm => (h.inp m hm).below hb (Nat.le_refl _), h.bel.trans hb, ?_, h.gb⟩, RowsKept.of h.ln ht⟩
  · have h9 := h.rx.its.sl
    refine ⟨h9.hlen, h9.hle, h9.hmax, h9.hnil, fun hp => ?_⟩
    obtain ⟨b, o, e, hb9, hc⟩ := h9.hat hp
    obtain ⟨n1, n2, -, -⟩ := h.ap _ e
    exact ⟨b, o, e, Nat.lt_of_lt_of_le hb9 ht.size, fun i hi => (World.cell?_of_block (a := ⟨b, o + i, none⟩) (ht.block b hb9 n1 (fun e9 => n2 e9.symm))).trans (hc i hi)⟩
  · obtain ⟨n1, n2, n3, n4⟩ := h.ap ad e
    refine ⟨n1, fun e9 => ?_, n3, Nat.lt_of_lt_of_le n4 ht.size⟩
    rcases ho _ e9 with h8 | h8
    · exact n2 h8
    · omega
  · refine (ht.block g h.glt (fun e => ?_) (fun e => ?_)).trans h.row
    · have h9 := h.row; rw [e] at h9; exact ty_ne h9 h.ln.row ne_types2.1
    · obtain ⟨cur, h9⟩ := own_block h.ln.own e.symm
      exact ty_ne h.row h9 ne_types2.2.1

/-- a copy goes on; the old line stands by -/
structure PSO (w0 : World) (g : Nat) (wr : World) (q : Nat) (X : PLine) (la : Option Addr) (lc : Nat) (ms : List MItem) (Y : PLine) (ra : Option Addr) (rc : Nat) (rs : List MItem) (qo : Nat) (Xo : PLine) (lao : Option Addr) (lco : Nat) (mso : List MItem) : Prop where
  ps : PS w0 g wr q X la lc ms Y ra rc rs
  old : LnAt wr w0.heap.size qo Xo lao lco mso
  ne : q ≠ qo
  no : ∀ k, (Value.slice la ms.length lc).ownBlock = some k → (Value.slice lao mso.length lco).ownBlock ≠ some k
  apo : ∀ ad, ra = some ad → ad.block ≠ qo ∧ (Value.slice lao mso.length lco).ownBlock ≠ some ad.block

theorem PS.copied (h : PS w0 g wr q X la lc ms Y ra rc rs) {W : World} {q' : Nat} {la' : Option Addr} {lc' : Nat} (hn : LnAt W wr.heap.size q' X la' lc' ms) (hb : Below wr.heap.size wr W) (hq : wr.heap.size ≤ q') :
    PSO w0 g W q' X la' lc' ms Y ra rc rs q X la lc ms := by
  have hs := h.bel.size
  have h1 := h.below hb
  have hlt := h.ln.lt
  refine ⟨⟨hn.mono hs, h1.rx, fun ad e => ?_, h1.inp, h1.bel, h1.row, h1.gb⟩, h1.ln, by omega, fun k e => ?_, fun ad e => let ⟨a1, a2, _, _⟩ := h.ap ad e; ⟨a1, a2⟩⟩
  · obtain ⟨a1, a2, a3, a4⟩ := h.ap ad e
    refine ⟨by omega, fun e9 => ?_, a3, Nat.lt_of_lt_of_le a4 hb.size⟩
    have := (own_lt hn.own e9).1
    omega
  · intro e9
    have h8 := (own_lt hn.own e).1
    have h7 := (own_lt h.ln.own e9).2
    omega

theorem PSO.turn {qo : Nat} {Xo : PLine} {lao : Option Addr} {lco : Nat} {mso : List MItem} (h : PSO w0 g wr q X la lc ms Y ra rc rs qo Xo lao lco mso) {W : World} {Xo' : PLine} (hl : LineTo w0.heap.size qo Xo' (Value.slice lao mso.length lco).ownBlock wr W) :
    ∃ lao' lco' mso', PSO w0 g W q X la lc ms Y ra rc rs qo Xo' lao' lco' mso' ∧ RowsKept wr W := by
  obtain ⟨lao', lco', mso', hn, ht, ho⟩ := hl
  have hsz := h.ps.bel.size
  have hb : Below w0.heap.size wr W := ht.below h.old.pb (fun k hk => (own_lt h.old.own hk).1) hsz
  have hrk := RowsKept.of h.old ht
  refine ⟨lao', lco', mso', ⟨⟨h.old.other h.ps.ln h.ne h.no ht, ⟨⟨?_, fun m hm => ((h.ps.inp m hm).below hb (Nat.le_refl _)).mono (by have := ht.size; omega)⟩, h.ps.rx.eq⟩, fun ad e => ?_, fun m hm => (h.ps.inp m hm).below hb (Nat.le_refl _), h.ps.bel.trans hb, hrk.2 _ _ _ h.ps.row ne_types2.1 ne_types2.2.1, h.ps.gb⟩, hn, h.ne, fun k e e9 => ?_, fun ad e => ?_⟩, hrk⟩
  · have h9 := h.ps.rx.its.sl
    refine ⟨h9.hlen, h9.hle, h9.hmax, h9.hnil, fun hp => ?_⟩
    obtain ⟨b, o, e, hb9, hc⟩ := h9.hat hp
    obtain ⟨n1, n2⟩ := h.apo _ e
    exact ⟨b, o, e, Nat.lt_of_lt_of_le hb9 ht.size, fun i hi => (World.cell?_of_block (a := ⟨b, o + i, none⟩) (ht.block b hb9 n1 (fun e9 => n2 e9.symm))).trans (hc i hi)⟩
  · obtain ⟨a1, a2, a3, a4⟩ := h.ps.ap ad e
    exact ⟨a1, a2, a3, Nat.lt_of_lt_of_le a4 ht.size⟩
  · rcases ho _ e9 with h8 | h8
    · exact h.no _ e h8
    · have := (own_lt h.ps.ln.own e).2
      omega
  · obtain ⟨a1, a2⟩ := h.apo ad e
    refine ⟨a1, fun e9 => ?_⟩
    rcases ho _ e9 with h8 | h8
    · exact a2 h8
    · have := (h.ps.ap ad e).2.2.2
      omega
end
end Go.Proofs.Ytogcnfhmcpkdcaa
