/-
  Contract of the reading of fields that holds them against what is wanted (held.read).
-/
import Derived.Test.YtogcnfhmcpkdcaaGotsMem
namespace Go.Proofs.Ytogcnfhmcpkdcaa
open Go.RowKit
set_option linter.unusedVariables false
set_option linter.unusedSimpArgs false

def heldRow (la : Option Addr) (n lc : Nat) (wa : Option Addr) (m wc : Nat) (k : Nat) : Array Value := #[.slice la n lc, .slice wa m wc, .int .i64 k, .bool true]

/-- what the reading comes to -/
structure HeldEnd (q p : Nat) (la : Option Addr) (n lc : Nat) (wa : Option Addr) (m wc : Nat) (x : Int) (rest : List UInt8) (w w' : World) (e : Ending) : Prop where
  two : Two q p w w'
  row : w'.heap[p]? = some (.cells (heldRow la n lc wa m wc m) 65 (0, 0))
  bad : x ≠ 0 → e = broke x
  good : x = 0 → e = .returned (.tuple #[]) ∧ EyeLen w' q rest.length

/-- the loop, at a round's head -/
structure HeldAt (q p : Nat) (la : Option Addr) (lc : Nat) (wa : Option Addr) (wc : Nat) (ms : List MF) (mg : List MG) (l : List UInt8) (w wr : World) (j : Nat) (l' : List UInt8) : Prop where
  le : j ≤ ms.length
  lj : j ≤ mg.length
  two : Two q p w wr
  row : wr.heap[p]? = some (.cells (heldRow la ms.length lc wa mg.length wc j) 65 (0, 0))
  eye : EyeAt wr q l'
  run : mg.map MG.g = (mg.take j).map MG.g ++ (runF ((ms.drop j).map MF.f) l').1 ∧ (runF (ms.map MF.f) l).2 = (runF ((ms.drop j).map MF.f) l').2
  ok : OkF ((ms.drop j).map MF.f) l'

theorem runF_ok {f : PF} {fs : List PF} {l : List UInt8} (h : (f.take l).e = 0) : runF (f :: fs) l = (f.take l :: (runF fs (f.take l).left).1, (runF fs (f.take l).left).2) := by
  simp only [runF]; rw [if_pos h]
theorem runF_bad {f : PF} {fs : List PF} {l : List UInt8} (h : (f.take l).e ≠ 0) : runF (f :: fs) l = ([], (f.take l).e, []) := by
  simp only [runF]; rw [if_neg h]

theorem HeldAt.stop {q p : Nat} {la : Option Addr} {lc : Nat} {wa : Option Addr} {wc : Nat} {ms : List MF} {mg : List MG} {l : List UInt8} {w wr : World} {j : Nat} {l' : List UInt8} {m : MF} (h : HeldAt q p la lc wa wc ms mg l w wr j l')
    (hd : ms.drop j = m :: ms.drop (j + 1)) {x : Int} (hx : m.f.take l' = .bad x) (hx0 : x ≠ 0) : (runF (ms.map MF.f) l).2.1 = x ∧ mg.length = j := by
  obtain ⟨h1, h2⟩ := h.run
  have he : (m.f.take l').e = x := by rw [hx]; rfl
  rw [hd, List.map_cons, runF_bad (by rw [he]; exact hx0), he] at h1 h2
  refine ⟨by rw [h2], ?_⟩
  have := congrArg List.length h1
  have hlj := h.lj
  simp at this
  omega

theorem HeldAt.next {q p : Nat} {la : Option Addr} {lc : Nat} {wa : Option Addr} {wc : Nat} {ms : List MF} {mg : List MG} {l : List UInt8} {w wr : World} {j : Nat} {l' : List UInt8} {m : MF} (h : HeldAt q p la lc wa wc ms mg l w wr j l')
    (hd : ms.drop j = m :: ms.drop (j + 1)) {G : PGot} (hx : m.f.take l' = G) (hx0 : G.e = 0) : ∃ mm, mg[j]? = some mm ∧ mm.g = G := by
  obtain ⟨h1, h2⟩ := h.run
  have hlj := h.lj
  rw [hd, List.map_cons, runF_ok (by rw [hx]; exact hx0), hx] at h1
  have hlt : j < mg.length := by
    have := congrArg List.length h1
    simp at this
    omega
  refine ⟨mg[j], List.getElem?_eq_getElem hlt, ?_⟩
  have h3 := congrArg (fun z => z[j]?) h1
  simp only at h3
  rw [List.getElem?_map, List.getElem?_eq_getElem hlt, List.getElem?_append_right (by simp; omega)] at h3
  have h4 : j - ((mg.take j).map MG.g).length = 0 := by simp; omega
  rw [h4] at h3
  simpa using h3

theorem HeldAt.turn {q p : Nat} {la : Option Addr} {lc : Nat} {wa : Option Addr} {wc : Nat} {ms : List MF} {mg : List MG} {l : List UInt8} {w wr w2 : World} {j : Nat} {l' : List UInt8} {m : MF} (h : HeldAt q p la lc wa wc ms mg l w wr j l')
    (hd : ms.drop j = m :: ms.drop (j + 1)) (hlt : j < ms.length) {G : PGot} (hx : m.f.take l' = G) (hx0 : G.e = 0) (ht : Two q p wr w2) (hrow : w2.heap[p]? = some (.cells (heldRow la ms.length lc wa mg.length wc (j + 1)) 65 (0, 0))) (hey : EyeAt w2 q G.left) :
    HeldAt q p la lc wa wc ms mg l w w2 (j + 1) G.left := by
  obtain ⟨mm, hm, hg⟩ := h.next hd hx hx0
  obtain ⟨h1, h2⟩ := h.run
  have hok := h.ok
  rw [hd, List.map_cons, runF_ok (by rw [hx]; exact hx0), hx] at h1 h2
  rw [hd, List.map_cons] at hok
  have hlj : j < mg.length := (List.getElem?_eq_some_iff.1 hm).1
  refine ⟨by omega, by omega, h.two.trans ht, hrow, hey, ⟨?_, h2⟩, ?_⟩
  · rw [List.take_succ_eq_append_getElem hlj, List.map_append, List.append_assoc]
    have e1 : mg[j] = mm := by simpa [List.getElem?_eq_getElem hlj] using hm
    rw [e1, List.map_cons, List.map_nil, hg]
    exact h1
  · have := hok.2
    rw [hx] at this
    exact this hx0

/-- the wanted Got of a round, its cells in a later world -/
theorem HeldAt.want {q p : Nat} {la : Option Addr} {lc : Nat} {wa : Option Addr} {wc : Nat} {ms : List MF} {mg : List MG} {l : List UInt8} {w wr : World} {j : Nat} {l' : List UInt8} {m : MF} (h : HeldAt q p la lc wa wc ms mg l w wr j l')
    (hd : ms.drop j = m :: ms.drop (j + 1)) {G : PGot} (hx : m.f.take l' = G) (hx0 : G.e = 0) {B : Nat} (hg : GotsAt w B wa wc mg) : ∃ (mm : MG) (wb wo : Nat), wa = some ⟨wb, wo, none⟩ ∧ wb < B ∧ j < mg.length ∧
      ∀ W : World, Below B w W → W.cell? ⟨wb, wo + j * 37 + 1, none⟩ = some (.int .u64 G.n) ∧ W.cell? ⟨wb, wo + j * 37 + 2, none⟩ = some (.slice mm.a G.t.length mm.c) ∧ W.rangeAt wb (wo + j * 37 + 3) (G.d.map bv) ∧ W.cell? ⟨wb, wo + j * 37 + 36, none⟩ = some (.slice mm.a' G.left.length mm.c') ∧ BsAt W B mm.a G.t.length mm.c G.t ∧ G.d.length = 32 := by
  obtain ⟨mm, hm, rfl⟩ := h.next hd hx hx0
  obtain ⟨wb, wo, e1, e2, e3, e4, e5, e6⟩ := hg.at_ hm
  have hmem : mm ∈ mg := List.mem_of_getElem? hm
  refine ⟨mm, wb, wo, e1, e2, (List.getElem?_eq_some_iff.1 hm).1, fun W hb => ⟨(hb.cell (p := ⟨wb, _, none⟩) e2).trans e3, (hb.cell (p := ⟨wb, _, none⟩) e2).trans e4, fun i v hv => (hb.cell (p := ⟨wb, _, none⟩) e2).trans (e5 i v hv), (hb.cell (p := ⟨wb, _, none⟩) e2).trans e6, ((hg.is mm hmem).below hb (Nat.le_refl _)).tx, (hg.is mm hmem).d32⟩⟩

theorem heldRow_turn (la : Option Addr) (n lc : Nat) (wa : Option Addr) (m wc k : Nat) : ((heldRow la n lc wa m wc k).setIfInBounds 3 (.bool true)).setIfInBounds 2 (.int .i64 ((k : Int) + 1)) = heldRow la n lc wa m wc (k + 1) := by
  simp [heldRow]

theorem take_num {f : PF} (hk : f.kd = 0) (l : List UInt8) : f.take l = takeP 0 f.n l := by unfold PF.take; rw [hk]
theorem take_text {f : PF} (hk : f.kd = 1) (l : List UInt8) : f.take l = takeP 1 f.n l := by unfold PF.take; rw [hk]
theorem take_id {f : PF} (hk : f.kd = 2) (l : List UInt8) : f.take l = takeP 2 f.n l := by unfold PF.take; rw [hk]

theorem BsAt.none {w W : World} {B : Nat} {n c : Nat} {l : List UInt8} (h : BsAt w B Option.none n c l) : BsAt W W.heap.size Option.none n c l := by
  have hc := h.hnil rfl
  have hn := h.hle
  exact ⟨h.hlen, h.hle, h.hmax, h.hnil, h.hbig, fun hp => by omega⟩

/-- what the great test of a round reads -/
structure HeldS (p g wb wo n wc j : Nat) (G : PGot) (ta : Option Addr) (tc : Nat) (mm : MG) (w' : World) : Prop where
  p1 : w'.cell? ⟨p, 1, none⟩ = some (.slice (some ⟨wb, wo, none⟩) n wc)
  p3 : w'.cell? ⟨p, 3, none⟩ = some (.bool true)
  g1 : w'.cell? ⟨g, 1, none⟩ = some (.int .u64 G.n)
  g2 : w'.cell? ⟨g, 2, none⟩ = some (.slice ta G.t.length tc)
  g3 : w'.rangeAt g 3 (G.d.map bv)
  a1 : w'.cell? ⟨wb, wo + j * 37 + 1, none⟩ = some (.int .u64 G.n)
  a2 : w'.cell? ⟨wb, wo + j * 37 + 2, none⟩ = some (.slice mm.a G.t.length mm.c)
  a3 : w'.rangeAt wb (wo + j * 37 + 3) (G.d.map bv)
  a4 : w'.cell? ⟨wb, wo + j * 37 + 36, none⟩ = some (.slice mm.a' G.left.length mm.c')

theorem heldS_of {la : Option Addr} {k lc p g wb wo n wc j B : Nat} {T : TypeId} {G : PGot} {ta : Option Addr} {tc : Nat} {mm : MG} {W : World} (hg : W.heap[g]? = some (.cells (MF.agg ⟨⟨G.k, G.n, G.t, G.d⟩, ta, tc⟩) 58 (0, 0))) (hp : W.heap[p]? = some (.cells (heldRow la k lc (some ⟨wb, wo, none⟩) n wc j) T (0, 0)))
    (hw : W.cell? ⟨wb, wo + j * 37 + 1, none⟩ = some (.int .u64 G.n) ∧ W.cell? ⟨wb, wo + j * 37 + 2, none⟩ = some (.slice mm.a G.t.length mm.c) ∧ W.rangeAt wb (wo + j * 37 + 3) (G.d.map bv) ∧ W.cell? ⟨wb, wo + j * 37 + 36, none⟩ = some (.slice mm.a' G.left.length mm.c') ∧ BsAt W B mm.a G.t.length mm.c G.t ∧ G.d.length = 32) : HeldS p g wb wo n wc j G ta tc mm W := by
  obtain ⟨-, g1, g2, g3, -⟩ := frow_cells hg
  obtain ⟨a1, a2, a3, a4, -, -⟩ := hw
  exact ⟨by rw [cell_of_row _ _ _ _ _ _ hp]; rfl, by rw [cell_of_row _ _ _ _ _ _ hp]; rfl, g1, g2, g3, a1, a2, a3, a4⟩

theorem HeldS.keep {p g wb wo n wc j : Nat} {G : PGot} {ta : Option Addr} {tc : Nat} {mm : MG} {w w' : World} (h : HeldS p g wb wo n wc j G ta tc mm w) {N : Nat} (hb : Below N w w') (hp : p < N) (hg : g < N) (hw : wb < N) : HeldS p g wb wo n wc j G ta tc mm w' :=
  ⟨(hb.cell (p := ⟨p, _, none⟩) hp).trans h.p1, (hb.cell (p := ⟨p, _, none⟩) hp).trans h.p3, (hb.cell (p := ⟨g, _, none⟩) hg).trans h.g1, (hb.cell (p := ⟨g, _, none⟩) hg).trans h.g2, fun i v hv => (hb.cell (p := ⟨g, _, none⟩) hg).trans (h.g3 i v hv),
    (hb.cell (p := ⟨wb, _, none⟩) hw).trans h.a1, (hb.cell (p := ⟨wb, _, none⟩) hw).trans h.a2, fun i v hv => (hb.cell (p := ⟨wb, _, none⟩) hw).trans (h.a3 i v hv), (hb.cell (p := ⟨wb, _, none⟩) hw).trans h.a4⟩

theorem HeldS.set {p g wb wo n wc j : Nat} {G : PGot} {ta : Option Addr} {tc : Nat} {mm : MG} {w : World} (h : HeldS p g wb wo n wc j G ta tc mm w) (hg : g ≠ p) (hw : wb ≠ p) : HeldS p g wb wo n wc j G ta tc mm (w.setCell ⟨p, 3, none⟩ (.bool true)) := by
  have ho : ∀ b o, (b ≠ p ∨ o ≠ 3) → (w.setCell ⟨p, 3, none⟩ (.bool true)).cell? ⟨b, o, none⟩ = w.cell? ⟨b, o, none⟩ := fun b o hh => World.cell?_setCell_other _ _ _ _ (by intro e; injection e with e1 e2; omega)
  exact ⟨(ho _ _ (.inr (by omega))).trans h.p1, World.cell?_setCell_same _ _ _ h.p3, (ho _ _ (.inl hg)).trans h.g1, (ho _ _ (.inl hg)).trans h.g2, fun i v hv => (ho _ _ (.inl hg)).trans (h.g3 i v hv),
    (ho _ _ (.inl hw)).trans h.a1, (ho _ _ (.inl hw)).trans h.a2, fun i v hv => (ho _ _ (.inl hw)).trans (h.a3 i v hv), (ho _ _ (.inl hw)).trans h.a4⟩

set_option maxRecDepth 100000 in
set_option maxHeartbeats 16000000 in
theorem heldRead (q p : Nat) (ms : List MF) (la : Option Addr) (lc : Nat) (mg : List MG) (wa : Option Addr) (wc : Nat) (l : List UInt8) (w : World) (hq : EyeAt w q l) (hpq : p ≠ q) (B : Nat) (hB : B ≤ q) (hBp : B ≤ p) (hn : ms.length ≤ 12)
    (hfs : FieldsAt w B la lc ms) (hgs : GotsAt w B wa wc mg) (hok : OkF (ms.map MF.f) l) (hrun : mg.map MG.g = (runF (ms.map MF.f) l).1) (hgn : mg.length ≤ 12)
    (hp : w.heap[p]? = some (.cells (heldRow la ms.length lc wa mg.length wc 0) 65 (0, 0))) :
    Calls Try.prog 40 #[.pointer (some ⟨p, 0, none⟩), .pointer (some ⟨q, 0, none⟩)] w fun e w' => HeldEnd q p la ms.length lc wa mg.length wc (runF (ms.map MF.f) l).2.1 (runF (ms.map MF.f) l).2.2 w w' e := by
  obtain ⟨X, hX⟩ : ∃ X, X = (runF (ms.map MF.f) l).2 := ⟨_, rfl⟩
  have HF := Lib.hid hfs
  have HG := Lib.hid hgs
  have HI0 := Lib.hid (show HeldAt q p la lc wa wc ms mg l w w 0 l from ⟨by omega, by omega, Two.refl _ _ _, hp, hq, ⟨by simpa using hrun, by simp⟩, by simpa using hok⟩)
  have hpl : p < w.heap.size := (Array.getElem?_eq_some_iff.1 hp).1
  have hql := hq.1
  have HZ := Lib.hid (MF.agg_size (m := ⟨⟨0, 0, [], zeros32⟩, none, 0⟩) (by simp [zeros32]))
  rw [← hX]
  have HX := Lib.hid hX
  clear hp hfs hgs hq hok hrun hX
  go_enter Try.func40, Try.ntmps40
  go_wp2_with fail
  go_loopw [4] (fun iv wr => ∃ (j : Nat) (l' : List UInt8), iv = .int .i64 j ∧ HeldAt q p la lc wa wc ms mg l w wr j l') (fun iv _ => ms.length - (intOf iv).toNat)
  case atStart => exact ⟨0, l, rfl, HI0.out⟩
  case round =>
    obtain ⟨j, l', rfl, hI⟩ := hrel
    have HI := Lib.hid hI
    have hle := hI.le
    have hprow := hI.row
    have hsz := hI.two.size
    have c0 : wr.cell? ⟨p, 0, none⟩ = some (.slice la ms.length lc) := by rw [cell_of_row _ _ _ _ _ _ hprow]; rfl
    have HPR := Lib.hid hprow
    clear hI hprow
    by_cases hlt : j < ms.length
    · obtain ⟨m, hm⟩ : ∃ m, ms[j]? = some m := ⟨_, List.getElem?_eq_getElem hlt⟩
      have hmem : m ∈ ms := List.mem_of_getElem? hm
      obtain ⟨b, o, hla, hb, hr, -⟩ := HF.out.at_ hm
      subst hla
      have hbt := HI.out.two.below hB hBp (by omega)
      have hrr : wr.rangeAt b (o + j * 35) m.cells := fun i v hv => (hbt.cell (p := ⟨b, _, none⟩) hb).trans (hr i v hv)
      have hdr : ms.drop j = m :: ms.drop (j + 1) := by
        rw [List.drop_eq_getElem_cons hlt]; congr 1; simpa [List.getElem?_eq_getElem hlt] using hm
      have hokm : m.f.kd = 1 → m.f.n ≤ 1099511627776 := by
        have h9 := HI.out.ok
        rw [hdr, List.map_cons] at h9
        exact h9.1
      have hd := (HF.out.is m hmem).d32
      have hn64 := (HF.out.is m hmem).n64
      have HRR := Lib.hid hrr
      have HD := Lib.hid hd
      have HCL := Lib.hid (show m.cells.length = 35 by simp [MF.cells, hd])
      have HK := Lib.hid (MF.agg_size (m := m.kind) hd)
      have HDR := Lib.hid hdr
      have HOKM := Lib.hid hokm
      have hj0 : (0 : Int) ≤ (j : Int) := by omega
      have hj1 : (j : Int) < (ms.length : Int) := by omega
      clear hr hrr hbt hdr hm hd hokm
      go_wp2_with (refine wpList_load_mid rfl 58 (.tmp 22) rfl b (o + j * 35) rfl m.cells _ HRR.out Try.underlying58 rfl (by rw [HCL.out]; exact infoField) ?_)
      refine (kindF m HD.out _).mono ?_
      rintro e w1 ⟨rfl, hb1⟩
      have hs1 := hb1.size
      have HB1 := Lib.hid hb1
      clear hb1 c0
      rcases m.f.kd_cases with hk | hk | hk
      · skip
        have HKK := Lib.hid (show m.kind.f.k = 0 from hk)
        have HKD := Lib.hid hk
        clear hk
        go_wp2_with (first
          | (refine wpList_alloc_abs rfl 58 rfl (MF.agg ⟨⟨0, 0, [], zeros32⟩, none, 0⟩) zero_field ?_; first | (guard_hyp HROW3 : _; intro W4 hrow4 hb4 hs4; have HROW4 := Lib.hid hrow4; have HB4 := Lib.hid (HB3.out.trans (hb4.mono (by omega))); have HRK := Lib.hid ((hb4.block w1.heap.size (by omega)).trans HROW3.out); obtain ⟨d0, d1, d2, d3, -⟩ := frow_cells HRK.out; rw [HKK.out] at d0; clear hrow4 hb4 d2 d3) | (intro W2 hrow2 hb2 hs2; have HROW2 := Lib.hid hrow2; have HB2 := Lib.hid hb2; clear hrow2 hb2))
          | (refine wpList_store_abs rfl 58 (.tmp 5) _ rfl w1.heap.size m.kind.agg rfl rfl 58 _ HROW2.out (by rw [HK.out]; exact infoField) (by rw [HK.out, HZ.out]) (MF.agg_one _) ?_; intro W3 hrow3 hoth3 hb3 hs3; have HROW3 := Lib.hid hrow3; have HB3 := Lib.hid (HB2.out.trans hb3); clear hrow3 hoth3 hb3))
        have hsw : W4.heap.size = w1.heap.size + 2 := by omega
        have HROW4' := Lib.hid (show W4.heap[w1.heap.size + 1]? = some (.cells (MF.agg ⟨⟨0, 0, [], zeros32⟩, none, 0⟩) 58 (0, 0)) by have h9 := HROW4.out; rwa [show W3.heap.size = w1.heap.size + 1 by omega] at h9)
        have HEY4 := Lib.hid ((HI.out.eye.below HB1.out).below HB4.out)
        have HTW4 := Lib.hid (show Two q p wr W4 from (Two.ofBut (But.ofBelow (by omega) HB1.out)).trans (Two.ofBut (But.ofBelow (by omega) HB4.out)))
        have HPR4 := Lib.hid ((HB4.out.block p (by omega)).trans ((HB1.out.block p (by omega)).trans HPR.out))
        refine (eyeNum q m.f.n l' _ HEY4.out).mono ?_
        rintro e w5 ⟨hb5, hr5⟩
        have hs5 := hb5.size
        have HTW5 := Lib.hid (HTW4.out.trans (Two.ofBut hb5))
        have HPR5 := Lib.hid ((hb5.block p (by omega) hpq).trans HPR4.out)
        have HROW5 := Lib.hid ((hb5.block (w1.heap.size + 1) (by omega) (by omega)).trans HROW4'.out)
        clear hb5 d0 d1
        cases hg : getNum m.f.n l' with
        | err x =>
          rw [hg] at hr5
          obtain rfl : e = broke x := hr5
          have hx0 : x ≠ 0 := by have := getNum_errs hg; omega
          obtain ⟨hx, hmj⟩ := HI.out.stop HDR.out (by rw [take_num HKD.out, takeP_num_err hg]) hx0
          have HEND := Lib.hid (show HeldEnd q p (some ⟨b, o, none⟩) ms.length lc wa mg.length wc X.1 X.2 w w5 (broke x) from ⟨HI.out.two.trans HTW5.out, by rw [hmj]; have h9 := HPR5.out; rwa [hmj] at h9, fun _ => by rw [HX.out, hx], fun h9 => absurd (by rw [← h9, HX.out, hx]) hx0⟩)
          clear hg hx0 hx hmj
          go_wp2
          exact ⟨rfl, HEND.out⟩
        | ok v r =>
          rw [hg] at hr5
          obtain ⟨rfl, hey5⟩ := hr5
          obtain ⟨G, hG⟩ : ∃ G, G = (⟨0, v, [], zeros32, 0, r⟩ : PGot) := ⟨_, rfl⟩
          have hgt : m.f.take l' = G := by rw [take_num HKD.out, takeP_num_ok hg, hG]
          have HGT := Lib.hid hgt
          have HG0 := Lib.hid (show G.e = 0 by rw [hG])
          have HMF := Lib.hid (show (MF.mk ⟨0, v, [], zeros32⟩ none 0) = MF.mk ⟨G.k, G.n, G.t, G.d⟩ none 0 by rw [hG])
          have HEY5 := Lib.hid (show EyeAt w5 q G.left by rw [hG]; exact hey5)
          have HBT := Lib.hid (show BsAt w5 w5.heap.size none G.t.length 0 G.t by rw [hG]; exact BsAt.zero _ _ _ _ (by simp [maxLen]) (fun _ => rfl))
          have hprow5 := HPR5.out
          obtain ⟨mm, wb, wo, hwa, hwb, hjm, hwant⟩ := HI.out.want HDR.out HGT.out HG0.out HG.out
          have HWANT := Lib.hid hwant
          subst hwa
          clear hgt hG hey5 hg hwant hprow5
          have HK5 := Lib.hid (MF.agg_size (m := (MF.mk ⟨0, v, [], zeros32⟩ none 0)) (by simp [zeros32]))
          go_wp2_with (first
            | (refine wpList_build_l rfl 58 [(1, .tmp 32)] rfl [(1, .int .u64 (v : Int))] rfl (MF.agg (MF.mk ⟨0, v, [], zeros32⟩ none 0)) (built_num v) ?_)
            | (refine wpList_store_abs rfl 58 (.tmp 6) _ rfl (w1.heap.size + 1) (MF.agg (MF.mk ⟨0, v, [], zeros32⟩ none 0)) rfl rfl 58 _ HROW5.out (by rw [HK5.out]; exact infoField) (by rw [HK5.out, HZ.out]) (MF.agg_one _) ?_; intro W6 hrow6 hoth6 hb6 hs6; rw [HMF.out] at hrow6; have HTW6 := Lib.hid (show Two q p wr W6 from ⟨hb6.os.trans HTW5.out.os, hb6.tape.trans HTW5.out.tape, hb6.output.trans HTW5.out.output, by omega, fun k h1 h2 h3 => (hoth6 k (by omega)).trans (HTW5.out.block k h1 h2 h3)⟩); have HPR6 := Lib.hid ((hoth6 p (by omega)).trans HPR5.out); have HEY6 := Lib.hid (HEY5.out.keep (hb6.mono (by omega))); have HBT6 := Lib.hid (show BsAt W6 W6.heap.size none G.t.length 0 G.t from BsAt.none (HBT.out)); obtain ⟨-, g1, g2, g3, -⟩ := frow_cells hrow6; have HBW6 := Lib.hid ((HI.out.two.trans HTW6.out).below hB hBp (by omega)); have HS6 := Lib.hid (heldS_of hrow6 HPR6.out (HWANT.out W6 HBW6.out)); obtain ⟨-, -, -, -, a5, a6⟩ := HWANT.out W6 HBW6.out; have A5 := Lib.hid a5; have A6 := Lib.hid a6; have p2 : W6.cell? ⟨p, 2, none⟩ = some (.int .i64 j) := (by rw [cell_of_row _ _ _ _ _ _ HPR6.out]; rfl); clear hrow6 hoth6 hb6 g1 g2 g3 a5 a6))
          clear p2
          have hjm1 : decide ((j : Int) < (mg.length : Int)) = true := by simp; omega
          have HS6' := Lib.hid (show HeldS p (w1.heap.size + 1) wb wo mg.length wc j G none 0 mm W6.drew from HS6.out.keep (N := W6.heap.size) (Below.refl _ _).drew (by omega) (by omega) (by omega))
          refine wp_region_any (by kernel_rfl) ?_
          refine wpAny_of_held (S := HeldS p (w1.heap.size + 1) wb wo mg.length wc j G none 0 mm) _ _ _ _ ?_
          refine heldTake 0 51 rfl rfl (by kernel_rfl) (by kernel_rfl) (by kernel_rfl) (fun _ _ _ h => h) HS6'.out (.inl ⟨by rfl, by intro w' hS; obtain ⟨s1, s2, s3, s4, s5, s6, s7, s8, s9⟩ := hS; go_simp; (try rfl)⟩) ?_
          simp only [List.set_cons_zero, List.set_cons_succ]
          refine heldTake 1 52 rfl rfl (by kernel_rfl) (by kernel_rfl) (by kernel_rfl) (fun _ _ _ h => h) HS6'.out (.inl ⟨by rfl, by intro w' hS; obtain ⟨s1, s2, s3, s4, s5, s6, s7, s8, s9⟩ := hS; go_simp; (try rfl)⟩) ?_
          simp only [List.set_cons_zero, List.set_cons_succ]
          refine heldTake 2 53 rfl rfl (by kernel_rfl) (by kernel_rfl) (by kernel_rfl) (fun _ _ _ h => h) HS6'.out (.inl ⟨by rfl, by intro w' hS; obtain ⟨s1, s2, s3, s4, s5, s6, s7, s8, s9⟩ := hS; go_simp; (try rfl)⟩) ?_
          simp only [List.set_cons_zero, List.set_cons_succ]
          refine heldTake 3 54 rfl rfl (by kernel_rfl) (by kernel_rfl) (by kernel_rfl) (fun _ _ _ h => h) HS6'.out (.inl ⟨by rfl, by intro w' hS; obtain ⟨s1, s2, s3, s4, s5, s6, s7, s8, s9⟩ := hS; go_simp; (try rfl)⟩) ?_
          simp only [List.set_cons_zero, List.set_cons_succ]
          refine heldTake 4 55 rfl rfl (by kernel_rfl) (by kernel_rfl) (by kernel_rfl) (fun _ _ _ h => h) HS6'.out (.inl ⟨by rfl, by intro w' hS; obtain ⟨s1, s2, s3, s4, s5, s6, s7, s8, s9⟩ := hS; go_simp; (try rfl)⟩) ?_
          simp only [List.set_cons_zero, List.set_cons_succ]
          refine heldTake 5 56 rfl rfl (by kernel_rfl) (by kernel_rfl) (by kernel_rfl) (fun _ _ _ h => h) HS6'.out (.inl ⟨by rfl, by intro w' hS; obtain ⟨s1, s2, s3, s4, s5, s6, s7, s8, s9⟩ := hS; go_simp; (try rfl)⟩) ?_
          simp only [List.set_cons_zero, List.set_cons_succ]
          refine heldTake 6 57 rfl rfl (by kernel_rfl) (by kernel_rfl) (by kernel_rfl) (fun _ _ _ h => h) HS6'.out (.inl ⟨by rfl, by intro w' hS; obtain ⟨s1, s2, s3, s4, s5, s6, s7, s8, s9⟩ := hS; go_simp; (try rfl)⟩) ?_
          simp only [List.set_cons_zero, List.set_cons_succ]
          refine heldTake 7 58 rfl rfl (by kernel_rfl) (by kernel_rfl) (by kernel_rfl) (fun _ _ _ h => h) HS6'.out (.inl ⟨by rfl, by intro w' hS; obtain ⟨s1, s2, s3, s4, s5, s6, s7, s8, s9⟩ := hS; go_simp; (try rfl)⟩) ?_
          simp only [List.set_cons_zero, List.set_cons_succ]
          refine heldTake 8 59 rfl rfl (by kernel_rfl) (by kernel_rfl) (by kernel_rfl) (fun _ _ _ h => h) HS6'.out (.inl ⟨by rfl, by intro w' hS; obtain ⟨s1, s2, s3, s4, s5, s6, s7, s8, s9⟩ := hS; go_simp; (try rfl)⟩) ?_
          simp only [List.set_cons_zero, List.set_cons_succ]
          refine heldTake 9 60 rfl rfl (by kernel_rfl) (by kernel_rfl) (by kernel_rfl) (fun _ _ _ h => h) HS6'.out (.inl ⟨by rfl, by intro w' hS; obtain ⟨s1, s2, s3, s4, s5, s6, s7, s8, s9⟩ := hS; go_simp; (try rfl)⟩) ?_
          simp only [List.set_cons_zero, List.set_cons_succ]
          refine heldTake 10 61 rfl rfl (by kernel_rfl) (by kernel_rfl) (by kernel_rfl) (fun _ _ _ h => h) HS6'.out (.inl ⟨by rfl, by intro w' hS; obtain ⟨s1, s2, s3, s4, s5, s6, s7, s8, s9⟩ := hS; go_simp; (try rfl)⟩) ?_
          simp only [List.set_cons_zero, List.set_cons_succ]
          refine heldTake 11 62 rfl rfl (by kernel_rfl) (by kernel_rfl) (by kernel_rfl) (fun _ _ _ h => h) HS6'.out (.inl ⟨by rfl, by intro w' hS; obtain ⟨s1, s2, s3, s4, s5, s6, s7, s8, s9⟩ := hS; go_simp; (try rfl)⟩) ?_
          simp only [List.set_cons_zero, List.set_cons_succ]
          refine heldTake 12 63 rfl rfl (by kernel_rfl) (by kernel_rfl) (by kernel_rfl) (fun _ _ _ h => h) HS6'.out (.inl ⟨by rfl, by intro w' hS; obtain ⟨s1, s2, s3, s4, s5, s6, s7, s8, s9⟩ := hS; go_simp; (try rfl)⟩) ?_
          simp only [List.set_cons_zero, List.set_cons_succ]
          refine heldTake 13 64 rfl rfl (by kernel_rfl) (by kernel_rfl) (by kernel_rfl) (fun _ _ _ h => h) HS6'.out (.inl ⟨by rfl, by intro w' hS; obtain ⟨s1, s2, s3, s4, s5, s6, s7, s8, s9⟩ := hS; go_simp; (try rfl)⟩) ?_
          simp only [List.set_cons_zero, List.set_cons_succ]
          refine heldTake 14 65 rfl rfl (by kernel_rfl) (by kernel_rfl) (by kernel_rfl) (fun _ _ _ h => h) HS6'.out (.inl ⟨by rfl, by intro w' hS; obtain ⟨s1, s2, s3, s4, s5, s6, s7, s8, s9⟩ := hS; go_simp; (try rfl)⟩) ?_
          simp only [List.set_cons_zero, List.set_cons_succ]
          refine heldTake 15 66 rfl rfl (by kernel_rfl) (by kernel_rfl) (by kernel_rfl) (fun _ _ _ h => h) HS6'.out (.inl ⟨by rfl, by intro w' hS; obtain ⟨s1, s2, s3, s4, s5, s6, s7, s8, s9⟩ := hS; go_simp; (try rfl)⟩) ?_
          simp only [List.set_cons_zero, List.set_cons_succ]
          refine heldTake 16 67 rfl rfl (by kernel_rfl) (by kernel_rfl) (by kernel_rfl) (fun _ _ _ h => h) HS6'.out (.inl ⟨by rfl, by intro w' hS; obtain ⟨s1, s2, s3, s4, s5, s6, s7, s8, s9⟩ := hS; go_simp; (try rfl)⟩) ?_
          simp only [List.set_cons_zero, List.set_cons_succ]
          refine heldTake 17 68 rfl rfl (by kernel_rfl) (by kernel_rfl) (by kernel_rfl) (fun _ _ _ h => h) HS6'.out (.inl ⟨by rfl, by intro w' hS; obtain ⟨s1, s2, s3, s4, s5, s6, s7, s8, s9⟩ := hS; go_simp; (try rfl)⟩) ?_
          simp only [List.set_cons_zero, List.set_cons_succ]
          refine heldTake 18 69 rfl rfl (by kernel_rfl) (by kernel_rfl) (by kernel_rfl) (fun _ _ _ h => h) HS6'.out (.inl ⟨by rfl, by intro w' hS; obtain ⟨s1, s2, s3, s4, s5, s6, s7, s8, s9⟩ := hS; go_simp; (try rfl)⟩) ?_
          simp only [List.set_cons_zero, List.set_cons_succ]
          refine heldTake 19 70 rfl rfl (by kernel_rfl) (by kernel_rfl) (by kernel_rfl) (fun _ _ _ h => h) HS6'.out (.inl ⟨by rfl, by intro w' hS; obtain ⟨s1, s2, s3, s4, s5, s6, s7, s8, s9⟩ := hS; go_simp; (try rfl)⟩) ?_
          simp only [List.set_cons_zero, List.set_cons_succ]
          refine heldTake 20 71 rfl rfl (by kernel_rfl) (by kernel_rfl) (by kernel_rfl) (fun _ _ _ h => h) HS6'.out (.inl ⟨by rfl, by intro w' hS; obtain ⟨s1, s2, s3, s4, s5, s6, s7, s8, s9⟩ := hS; go_simp; (try rfl)⟩) ?_
          simp only [List.set_cons_zero, List.set_cons_succ]
          refine heldTake 21 72 rfl rfl (by kernel_rfl) (by kernel_rfl) (by kernel_rfl) (fun _ _ _ h => h) HS6'.out (.inl ⟨by rfl, by intro w' hS; obtain ⟨s1, s2, s3, s4, s5, s6, s7, s8, s9⟩ := hS; go_simp; (try rfl)⟩) ?_
          simp only [List.set_cons_zero, List.set_cons_succ]
          refine heldTake 22 73 rfl rfl (by kernel_rfl) (by kernel_rfl) (by kernel_rfl) (fun _ _ _ h => h) HS6'.out (.inl ⟨by rfl, by intro w' hS; obtain ⟨s1, s2, s3, s4, s5, s6, s7, s8, s9⟩ := hS; go_simp; (try rfl)⟩) ?_
          simp only [List.set_cons_zero, List.set_cons_succ]
          refine heldTake 23 74 rfl rfl (by kernel_rfl) (by kernel_rfl) (by kernel_rfl) (fun _ _ _ h => h) HS6'.out (.inl ⟨by rfl, by intro w' hS; obtain ⟨s1, s2, s3, s4, s5, s6, s7, s8, s9⟩ := hS; go_simp; (try rfl)⟩) ?_
          simp only [List.set_cons_zero, List.set_cons_succ]
          refine heldTake 24 75 rfl rfl (by kernel_rfl) (by kernel_rfl) (by kernel_rfl) (fun _ _ _ h => h) HS6'.out (.inl ⟨by rfl, by intro w' hS; obtain ⟨s1, s2, s3, s4, s5, s6, s7, s8, s9⟩ := hS; go_simp; (try rfl)⟩) ?_
          simp only [List.set_cons_zero, List.set_cons_succ]
          refine heldTake 25 76 rfl rfl (by kernel_rfl) (by kernel_rfl) (by kernel_rfl) (fun _ _ _ h => h) HS6'.out (.inl ⟨by rfl, by intro w' hS; obtain ⟨s1, s2, s3, s4, s5, s6, s7, s8, s9⟩ := hS; go_simp; (try rfl)⟩) ?_
          simp only [List.set_cons_zero, List.set_cons_succ]
          refine heldTake 26 77 rfl rfl (by kernel_rfl) (by kernel_rfl) (by kernel_rfl) (fun _ _ _ h => h) HS6'.out (.inl ⟨by rfl, by intro w' hS; obtain ⟨s1, s2, s3, s4, s5, s6, s7, s8, s9⟩ := hS; go_simp; (try rfl)⟩) ?_
          simp only [List.set_cons_zero, List.set_cons_succ]
          refine heldTake 27 78 rfl rfl (by kernel_rfl) (by kernel_rfl) (by kernel_rfl) (fun _ _ _ h => h) HS6'.out (.inl ⟨by rfl, by intro w' hS; obtain ⟨s1, s2, s3, s4, s5, s6, s7, s8, s9⟩ := hS; go_simp; (try rfl)⟩) ?_
          simp only [List.set_cons_zero, List.set_cons_succ]
          refine heldTake 28 79 rfl rfl (by kernel_rfl) (by kernel_rfl) (by kernel_rfl) (fun _ _ _ h => h) HS6'.out (.inl ⟨by rfl, by intro w' hS; obtain ⟨s1, s2, s3, s4, s5, s6, s7, s8, s9⟩ := hS; go_simp; (try rfl)⟩) ?_
          simp only [List.set_cons_zero, List.set_cons_succ]
          refine heldTake 29 80 rfl rfl (by kernel_rfl) (by kernel_rfl) (by kernel_rfl) (fun _ _ _ h => h) HS6'.out (.inl ⟨by rfl, by intro w' hS; obtain ⟨s1, s2, s3, s4, s5, s6, s7, s8, s9⟩ := hS; go_simp; (try rfl)⟩) ?_
          simp only [List.set_cons_zero, List.set_cons_succ]
          refine heldTake 30 81 rfl rfl (by kernel_rfl) (by kernel_rfl) (by kernel_rfl) (fun _ _ _ h => h) HS6'.out (yieldsIf_load_mid (by rfl) 56 (.tmp 80) rfl (w1.heap.size + 1) 3 rfl (G.d.map bv) _ (fun _ h => h.g3) Try.underlying56 rfl (by rw [List.length_map, A6.out]; exact infoId)) ?_
          simp only [List.set_cons_zero, List.set_cons_succ]
          refine heldTake 31 82 rfl rfl (by kernel_rfl) (by kernel_rfl) (by kernel_rfl) (fun _ _ _ h => h) HS6'.out (.inl ⟨by rfl, by intro w' hS; obtain ⟨s1, s2, s3, s4, s5, s6, s7, s8, s9⟩ := hS; go_simp; (try rfl)⟩) ?_
          simp only [List.set_cons_zero, List.set_cons_succ]
          refine heldTake 32 83 rfl rfl (by kernel_rfl) (by kernel_rfl) (by kernel_rfl) (fun _ _ _ h => h) HS6'.out (.inl ⟨by rfl, by intro w' hS; obtain ⟨s1, s2, s3, s4, s5, s6, s7, s8, s9⟩ := hS; go_simp; (try rfl)⟩) ?_
          simp only [List.set_cons_zero, List.set_cons_succ]
          refine heldTake 33 84 rfl rfl (by kernel_rfl) (by kernel_rfl) (by kernel_rfl) (fun _ _ _ h => h) HS6'.out (.inl ⟨by rfl, by intro w' hS; obtain ⟨s1, s2, s3, s4, s5, s6, s7, s8, s9⟩ := hS; go_simp; (try rfl)⟩) ?_
          simp only [List.set_cons_zero, List.set_cons_succ]
          refine heldTake 34 85 rfl rfl (by kernel_rfl) (by kernel_rfl) (by kernel_rfl) (fun _ _ _ h => h) HS6'.out (.inl ⟨by rfl, by intro w' hS; obtain ⟨s1, s2, s3, s4, s5, s6, s7, s8, s9⟩ := hS; go_simp; (try rfl)⟩) ?_
          simp only [List.set_cons_zero, List.set_cons_succ]
          refine heldTake 35 86 rfl rfl (by kernel_rfl) (by kernel_rfl) (by kernel_rfl) (fun _ _ _ h => h) HS6'.out (.inl ⟨by rfl, by intro w' hS; obtain ⟨s1, s2, s3, s4, s5, s6, s7, s8, s9⟩ := hS; go_simp; (try rfl)⟩) ?_
          simp only [List.set_cons_zero, List.set_cons_succ]
          refine heldTake 36 87 rfl rfl (by kernel_rfl) (by kernel_rfl) (by kernel_rfl) (fun _ _ _ h => h) HS6'.out (.inl ⟨by rfl, by intro w' hS; obtain ⟨s1, s2, s3, s4, s5, s6, s7, s8, s9⟩ := hS; go_simp; (try rfl)⟩) ?_
          simp only [List.set_cons_zero, List.set_cons_succ]
          refine heldTake 37 88 rfl rfl (by kernel_rfl) (by kernel_rfl) (by kernel_rfl) (fun _ _ _ h => h) HS6'.out (.inl ⟨by rfl, by intro w' hS; obtain ⟨s1, s2, s3, s4, s5, s6, s7, s8, s9⟩ := hS; go_simp; (try rfl)⟩) ?_
          simp only [List.set_cons_zero, List.set_cons_succ]
          refine heldTake 38 89 rfl rfl (by kernel_rfl) (by kernel_rfl) (by kernel_rfl) (fun _ _ _ h => h) HS6'.out (.inl ⟨by rfl, by intro w' hS; obtain ⟨s1, s2, s3, s4, s5, s6, s7, s8, s9⟩ := hS; go_simp; (try rfl)⟩) ?_
          simp only [List.set_cons_zero, List.set_cons_succ]
          refine heldTake 39 90 rfl rfl (by kernel_rfl) (by kernel_rfl) (by kernel_rfl) (fun _ _ _ h => h) HS6'.out (yieldsIf_load_mid (by rfl) 56 (.tmp 89) rfl wb (wo + j * 37 + 3) rfl (G.d.map bv) _ (fun _ h => h.a3) Try.underlying56 rfl (by rw [List.length_map, A6.out]; exact infoId)) ?_
          simp only [List.set_cons_zero, List.set_cons_succ]
          have heq := run_eql_id G.d G.d A6.out A6.out
          rw [beq_self_eq_true] at heq
          refine heldTake 40 91 rfl rfl (by kernel_rfl) (by kernel_rfl) (by kernel_rfl) (fun _ _ _ h => h) HS6'.out (.inl ⟨by rfl, by intro w' hS; obtain ⟨s1, s2, s3, s4, s5, s6, s7, s8, s9⟩ := hS; go_simp; (try rfl)⟩) ?_
          simp only [List.set_cons_zero, List.set_cons_succ]
          refine heldTake 41 92 rfl rfl (by kernel_rfl) (by kernel_rfl) (by kernel_rfl) (fun _ _ _ h => h) HS6'.out (.inl ⟨by rfl, by intro w' hS; obtain ⟨s1, s2, s3, s4, s5, s6, s7, s8, s9⟩ := hS; go_simp; (try rfl)⟩) ?_
          simp only [List.set_cons_zero, List.set_cons_succ]
          refine heldTake 42 93 rfl rfl (by kernel_rfl) (by kernel_rfl) (by kernel_rfl) (fun _ _ _ h => h) HS6'.out (.inl ⟨by rfl, by intro w' hS; obtain ⟨s1, s2, s3, s4, s5, s6, s7, s8, s9⟩ := hS; go_simp; (try rfl)⟩) ?_
          simp only [List.set_cons_zero, List.set_cons_succ]
          refine heldTake 43 94 rfl rfl (by kernel_rfl) (by kernel_rfl) (by kernel_rfl) (fun _ _ _ h => h) HS6'.out (.inl ⟨by rfl, by intro w' hS; obtain ⟨s1, s2, s3, s4, s5, s6, s7, s8, s9⟩ := hS; go_simp; (try rfl)⟩) ?_
          simp only [List.set_cons_zero, List.set_cons_succ]
          refine heldTake 44 95 rfl rfl (by kernel_rfl) (by kernel_rfl) (by kernel_rfl) (fun _ _ _ h => h) HS6'.out (.inl ⟨by rfl, by intro w' hS; obtain ⟨s1, s2, s3, s4, s5, s6, s7, s8, s9⟩ := hS; go_simp; (try rfl)⟩) ?_
          simp only [List.set_cons_zero, List.set_cons_succ]
          refine heldTake 45 96 rfl rfl (by kernel_rfl) (by kernel_rfl) (by kernel_rfl) (fun _ _ _ h => h) HS6'.out (.inl ⟨by rfl, by intro w' hS; obtain ⟨s1, s2, s3, s4, s5, s6, s7, s8, s9⟩ := hS; go_simp; (try rfl)⟩) ?_
          simp only [List.set_cons_zero, List.set_cons_succ]
          refine heldTake 46 97 rfl rfl (by kernel_rfl) (by kernel_rfl) (by kernel_rfl) (fun _ _ _ h => h) HS6'.out (.inl ⟨by rfl, by intro w' hS; obtain ⟨s1, s2, s3, s4, s5, s6, s7, s8, s9⟩ := hS; go_simp; (try rfl)⟩) ?_
          simp only [List.set_cons_zero, List.set_cons_succ]
          refine heldTake 47 98 rfl rfl (by kernel_rfl) (by kernel_rfl) (by kernel_rfl) (fun _ _ _ h => h) HS6'.out (.inl ⟨by rfl, by intro w' hS; obtain ⟨s1, s2, s3, s4, s5, s6, s7, s8, s9⟩ := hS; go_simp; (try rfl)⟩) ?_
          simp only [List.set_cons_zero, List.set_cons_succ]
          refine heldTake 48 99 rfl rfl (by kernel_rfl) (by kernel_rfl) (by kernel_rfl) (fun _ _ _ h => h) HS6'.out (.inl ⟨by rfl, by intro w' hS; obtain ⟨s1, s2, s3, s4, s5, s6, s7, s8, s9⟩ := hS; go_simp; (try rfl)⟩) ?_
          simp only [List.set_cons_zero, List.set_cons_succ]
          refine heldTake 49 100 rfl rfl (by kernel_rfl) (by kernel_rfl) (by kernel_rfl) (fun _ _ _ h => h) HS6'.out (.inl ⟨by rfl, by intro w' hS; obtain ⟨s1, s2, s3, s4, s5, s6, s7, s8, s9⟩ := hS; go_simp; (try rfl)⟩) ?_
          simp only [List.set_cons_zero, List.set_cons_succ]
          refine heldTake 50 101 rfl rfl (by kernel_rfl) (by kernel_rfl) (by kernel_rfl) (fun _ _ _ h => h) HS6'.out (.inl ⟨by rfl, by intro w' hS; obtain ⟨s1, s2, s3, s4, s5, s6, s7, s8, s9⟩ := hS; go_simp; (try rfl)⟩) ?_
          simp only [List.set_cons_zero, List.set_cons_succ]
          refine heldTake 51 102 rfl rfl (by kernel_rfl) (by kernel_rfl) (by kernel_rfl) (fun _ _ _ h => h) HS6'.out (.inl ⟨by rfl, by intro w' hS; obtain ⟨s1, s2, s3, s4, s5, s6, s7, s8, s9⟩ := hS; go_simp; (try rfl)⟩) ?_
          simp only [List.set_cons_zero, List.set_cons_succ]
          refine heldTake 52 103 rfl rfl (by kernel_rfl) (by kernel_rfl) (by kernel_rfl) (fun _ _ _ h => h) HS6'.out (.inl ⟨by rfl, by intro w' hS; obtain ⟨s1, s2, s3, s4, s5, s6, s7, s8, s9⟩ := hS; go_simp; (try rfl)⟩) ?_
          simp only [List.set_cons_zero, List.set_cons_succ]
          refine heldTake 53 104 rfl rfl (by kernel_rfl) (by kernel_rfl) (by kernel_rfl) (fun _ _ _ h => h) HS6'.out (.inl ⟨by rfl, by intro w' hS; obtain ⟨s1, s2, s3, s4, s5, s6, s7, s8, s9⟩ := hS; go_simp; (try rfl)⟩) ?_
          simp only [List.set_cons_zero, List.set_cons_succ]
          clear heq
          refine heldOne 54 (by kernel_rfl) rfl (by rfl) ?_
          go_simp
          refine (r1Bytes G.t G.t _ _ _ _ _ _ W6.drew (HBT6.out.below (w' := W6.drew) (Below.refl _ _).drew (Nat.le_refl _)) ((A5.out.mono (show B ≤ W6.heap.size by omega)).below (w' := W6.drew) (Below.refl _ _).drew (Nat.le_refl _))).mono ?_
          rintro e w7 ⟨rfl, hb7⟩
          simp only [decide_true]
          have hs7 : W6.heap.size ≤ w7.heap.size := hb7.size
          have hbb7 : Below W6.heap.size W6 w7 := (Below.refl _ W6).drew.trans hb7
          have HEY7 := Lib.hid (HEY6.out.below hbb7)
          have HTW7 := Lib.hid (HTW6.out.trans (Two.ofBut (But.ofBelow (by omega) hbb7)))
          have HPR7 := Lib.hid ((hbb7.block p (by omega)).trans HPR6.out)
          have HS7 := Lib.hid (HS6.out.keep hbb7 (by omega) (by omega) (by omega))
          refine ⟨HS7.out, ?_⟩
          clear hb7 hbb7
          refine heldTake 55 106 rfl rfl (by kernel_rfl) (by kernel_rfl) (by kernel_rfl) (fun _ _ _ h => h) HS7.out (.inl ⟨by rfl, by intro w' hS; obtain ⟨s1, s2, s3, s4, s5, s6, s7, s8, s9⟩ := hS; go_simp; (try rfl)⟩) ?_
          simp only [List.set_cons_zero, List.set_cons_succ]
          refine heldTake 56 107 rfl rfl (by kernel_rfl) (by kernel_rfl) (by kernel_rfl) (fun _ _ _ h => h) HS7.out (.inl ⟨by rfl, by intro w' hS; obtain ⟨s1, s2, s3, s4, s5, s6, s7, s8, s9⟩ := hS; go_simp; (try rfl)⟩) ?_
          simp only [List.set_cons_zero, List.set_cons_succ]
          refine heldTake 57 108 rfl rfl (by kernel_rfl) (by kernel_rfl) (by kernel_rfl) (fun _ _ _ h => h) HS7.out (.inl ⟨by rfl, by intro w' hS; obtain ⟨s1, s2, s3, s4, s5, s6, s7, s8, s9⟩ := hS; go_simp; (try rfl)⟩) ?_
          simp only [List.set_cons_zero, List.set_cons_succ]
          refine heldTake 59 110 rfl rfl (by kernel_rfl) (by kernel_rfl) (by kernel_rfl) (fun _ _ _ h => h) HS7.out (.inl ⟨by rfl, by intro w' hS; obtain ⟨s1, s2, s3, s4, s5, s6, s7, s8, s9⟩ := hS; go_simp; (try rfl)⟩) ?_
          simp only [List.set_cons_zero, List.set_cons_succ]
          refine heldTake 60 111 rfl rfl (by kernel_rfl) (by kernel_rfl) (by kernel_rfl) (fun _ _ _ h => h) HS7.out (.inl ⟨by rfl, by intro w' hS; obtain ⟨s1, s2, s3, s4, s5, s6, s7, s8, s9⟩ := hS; go_simp; (try rfl)⟩) ?_
          simp only [List.set_cons_zero, List.set_cons_succ]
          refine heldTake 61 112 rfl rfl (by kernel_rfl) (by kernel_rfl) (by kernel_rfl) (fun _ _ _ h => h) HS7.out (.inl ⟨by rfl, by intro w' hS; obtain ⟨s1, s2, s3, s4, s5, s6, s7, s8, s9⟩ := hS; go_simp; (try rfl)⟩) ?_
          simp only [List.set_cons_zero, List.set_cons_succ]
          refine heldTake 62 113 rfl rfl (by kernel_rfl) (by kernel_rfl) (by kernel_rfl) (fun _ _ _ h => h) HS7.out (.inl ⟨by rfl, by intro w' hS; obtain ⟨s1, s2, s3, s4, s5, s6, s7, s8, s9⟩ := hS; go_simp; (try rfl)⟩) ?_
          simp only [List.set_cons_zero, List.set_cons_succ]
          refine heldTake 63 114 rfl rfl (by kernel_rfl) (by kernel_rfl) (by kernel_rfl) (fun _ _ _ h => h) HS7.out (.inl ⟨by rfl, by intro w' hS; obtain ⟨s1, s2, s3, s4, s5, s6, s7, s8, s9⟩ := hS; go_simp; (try rfl)⟩) ?_
          simp only [List.set_cons_zero, List.set_cons_succ]
          refine heldTake 64 115 rfl rfl (by kernel_rfl) (by kernel_rfl) (by kernel_rfl) (fun _ _ _ h => h) HS7.out (.inl ⟨by rfl, by intro w' hS; obtain ⟨s1, s2, s3, s4, s5, s6, s7, s8, s9⟩ := hS; go_simp; (try rfl)⟩) ?_
          simp only [List.set_cons_zero, List.set_cons_succ]
          refine heldTake 65 116 rfl rfl (by kernel_rfl) (by kernel_rfl) (by kernel_rfl) (fun _ _ _ h => h) HS7.out (.inl ⟨by rfl, by intro w' hS; obtain ⟨s1, s2, s3, s4, s5, s6, s7, s8, s9⟩ := hS; go_simp; (try rfl)⟩) ?_
          simp only [List.set_cons_zero, List.set_cons_succ]
          refine heldTake 66 117 rfl rfl (by kernel_rfl) (by kernel_rfl) (by kernel_rfl) (fun _ _ _ h => h) HS7.out (.inl ⟨by rfl, by intro w' hS; obtain ⟨s1, s2, s3, s4, s5, s6, s7, s8, s9⟩ := hS; go_simp; (try rfl)⟩) ?_
          simp only [List.set_cons_zero, List.set_cons_succ]
          refine heldTake 67 118 rfl rfl (by kernel_rfl) (by kernel_rfl) (by kernel_rfl) (fun _ _ _ h => h) HS7.out (.inl ⟨by rfl, by intro w' hS; obtain ⟨s1, s2, s3, s4, s5, s6, s7, s8, s9⟩ := hS; go_simp; (try rfl)⟩) ?_
          simp only [List.set_cons_zero, List.set_cons_succ]
          refine heldOne 58 (by kernel_rfl) rfl (by rfl) ?_
          go_simp
          refine (eyeLeft q G.left _ HEY7.out).mono ?_
          rintro e w8 ⟨rfl, rfl⟩
          refine ⟨HS7.out, ?_⟩
          refine heldTake 68 119 rfl rfl (by kernel_rfl) (by kernel_rfl) (by kernel_rfl) (fun _ _ _ h => h) HS7.out (.inl ⟨by rfl, by intro w' hS; obtain ⟨s1, s2, s3, s4, s5, s6, s7, s8, s9⟩ := hS; go_simp; (try rfl)⟩) ?_
          simp only [List.set_cons_zero, List.set_cons_succ]
          refine heldTake 69 120 rfl rfl (by kernel_rfl) (by kernel_rfl) (by kernel_rfl) (fun _ _ _ h => h) HS7.out (.inl ⟨by rfl, by intro w' hS; obtain ⟨s1, s2, s3, s4, s5, s6, s7, s8, s9⟩ := hS; go_simp; (try rfl)⟩) ?_
          simp only [List.set_cons_zero, List.set_cons_succ]
          refine heldTake 70 121 rfl rfl (by kernel_rfl) (by kernel_rfl) (by kernel_rfl) (fun _ _ _ h => h) HS7.out (.inl ⟨by rfl, by intro w' hS; obtain ⟨s1, s2, s3, s4, s5, s6, s7, s8, s9⟩ := hS; go_simp; (try rfl)⟩) ?_
          simp only [List.set_cons_zero, List.set_cons_succ]
          refine heldTake 71 122 rfl rfl (by kernel_rfl) (by kernel_rfl) (by kernel_rfl) (fun _ _ _ h => h) HS7.out (.inl ⟨by rfl, by intro w' hS; obtain ⟨s1, s2, s3, s4, s5, s6, s7, s8, s9⟩ := hS; go_simp; (try rfl)⟩) ?_
          simp only [List.set_cons_zero, List.set_cons_succ]
          refine heldOne 72 (by kernel_rfl) rfl (by rfl) ?_
          have p3 := HS7.out.p3
          have f3 : w7.frozen? ⟨p, 3, none⟩ = false := frozen_of_row _ _ _ _ _ HPR7.out
          refine wp_store_cell 4 (.tmp 122) (.tmp 120) rfl p 3 (.bool true) _ rfl rfl rfl infoBool p3 f3 ?_
          refine ⟨HS7.out.set (by omega) (by omega), wpAnyH_done (by kernel_rfl) ?_ _⟩
          have p2 : w7.cell? ⟨p, 2, none⟩ = some (.int .i64 j) := (by rw [cell_of_row _ _ _ _ _ _ HPR7.out]; rfl)
          have f2 : w7.frozen? ⟨p, 2, none⟩ = false := frozen_of_row _ _ _ _ _ HPR7.out
          have hrow8 : ((w7.setCell ⟨p, 3, none⟩ (.bool true)).setCell ⟨p, 2, none⟩ (.int .i64 ((j : Int) + 1))).heap[p]? = some (.cells (heldRow (some ⟨b, o, none⟩) ms.length lc (some ⟨wb, wo, none⟩) mg.length wc (j + 1)) 65 (0, 0)) := by
            have h8 := heap_setCell_same w7 p 3 _ _ (.bool true) HPR7.out
            have h9 := heap_setCell_same _ p 2 _ _ (.int .i64 ((j : Int) + 1)) h8
            rwa [heldRow_turn] at h9
          have hey8 : EyeAt ((w7.setCell ⟨p, 3, none⟩ (.bool true)).setCell ⟨p, 2, none⟩ (.int .i64 ((j : Int) + 1))) q G.left :=
            (HEY7.out.setOther hpq p3 (fun c e => by cases e) _).setOther hpq ((World.cell?_setCell_other _ _ _ _ (by intro e2; injection e2 with e3 e4; omega)).trans p2) (fun c e => by cases e) _
          have HIN := Lib.hid (HI.out.turn HDR.out hlt HGT.out HG0.out ((HTW7.out.trans (Two.set _ _)).trans (Two.set _ _)) hrow8 hey8)
          clear hrow8 hey8
          go_wp2
          go_roundw
          case rel => exact ⟨j + 1, G.left, by go_num, HIN.out⟩
          case measure => simp [intOf]; omega
      · skip
        have HKK := Lib.hid (show m.kind.f.k = 1 from hk)
        have HKD := Lib.hid hk
        clear hk
        go_wp2_with (first
          | (refine wpList_alloc_abs rfl 58 rfl (MF.agg ⟨⟨0, 0, [], zeros32⟩, none, 0⟩) zero_field ?_; first | (guard_hyp HROW3 : _; intro W4 hrow4 hb4 hs4; have HROW4 := Lib.hid hrow4; have HB4 := Lib.hid (HB3.out.trans (hb4.mono (by omega))); have HRK := Lib.hid ((hb4.block w1.heap.size (by omega)).trans HROW3.out); obtain ⟨d0, d1, d2, d3, -⟩ := frow_cells HRK.out; rw [HKK.out] at d0; clear hrow4 hb4 d2 d3) | (intro W2 hrow2 hb2 hs2; have HROW2 := Lib.hid hrow2; have HB2 := Lib.hid hb2; clear hrow2 hb2))
          | (refine wpList_store_abs rfl 58 (.tmp 5) _ rfl w1.heap.size m.kind.agg rfl rfl 58 _ HROW2.out (by rw [HK.out]; exact infoField) (by rw [HK.out, HZ.out]) (MF.agg_one _) ?_; intro W3 hrow3 hoth3 hb3 hs3; have HROW3 := Lib.hid hrow3; have HB3 := Lib.hid (HB2.out.trans hb3); clear hrow3 hoth3 hb3))
        have hsw : W4.heap.size = w1.heap.size + 2 := by omega
        have HROW4' := Lib.hid (show W4.heap[w1.heap.size + 1]? = some (.cells (MF.agg ⟨⟨0, 0, [], zeros32⟩, none, 0⟩) 58 (0, 0)) by have h9 := HROW4.out; rwa [show W3.heap.size = w1.heap.size + 1 by omega] at h9)
        have HEY4 := Lib.hid ((HI.out.eye.below HB1.out).below HB4.out)
        have HTW4 := Lib.hid (show Two q p wr W4 from (Two.ofBut (But.ofBelow (by omega) HB1.out)).trans (Two.ofBut (But.ofBelow (by omega) HB4.out)))
        have HPR4 := Lib.hid ((HB4.out.block p (by omega)).trans ((HB1.out.block p (by omega)).trans HPR.out))
        have hnn := HOKM.out HKD.out
        rw [show wrap64 (m.kind.f.n : Int) = (m.f.n : Int) from IntWalk.wrap64_in _ ⟨by show -9223372036854775808 ≤ (m.f.n : Int); omega, by show (m.f.n : Int) ≤ 9223372036854775807; omega⟩]
        refine (eyeText q m.f.n l' _ HEY4.out (by omega)).mono ?_
        clear hnn
        rintro e w5 ⟨hb5, hr5⟩
        have hs5 := hb5.size
        have HTW5 := Lib.hid (HTW4.out.trans (Two.ofBut hb5))
        have HPR5 := Lib.hid ((hb5.block p (by omega) hpq).trans HPR4.out)
        have HROW5 := Lib.hid ((hb5.block (w1.heap.size + 1) (by omega) (by omega)).trans HROW4'.out)
        clear hb5 d0 d1
        cases hg : getText m.f.n l' with
        | err x =>
          rw [hg] at hr5
          obtain rfl : e = broke x := hr5
          have hx0 : x ≠ 0 := by have := getText_errs hg; omega
          obtain ⟨hx, hmj⟩ := HI.out.stop HDR.out (by rw [take_text HKD.out, takeP_text_err hg]) hx0
          have HEND := Lib.hid (show HeldEnd q p (some ⟨b, o, none⟩) ms.length lc wa mg.length wc X.1 X.2 w w5 (broke x) from ⟨HI.out.two.trans HTW5.out, by rw [hmj]; have h9 := HPR5.out; rwa [hmj] at h9, fun _ => by rw [HX.out, hx], fun h9 => absurd (by rw [← h9, HX.out, hx]) hx0⟩)
          clear hg hx0 hx hmj
          go_wp2
          exact ⟨rfl, HEND.out⟩
        | ok t r =>
          rw [hg] at hr5
          obtain ⟨⟨ta, tc, rfl, hbs5, hown5⟩, hey5⟩ := hr5
          obtain ⟨G, hG⟩ : ∃ G, G = (⟨1, 0, t, zeros32, 0, r⟩ : PGot) := ⟨_, rfl⟩
          have hgt : m.f.take l' = G := by rw [take_text HKD.out, takeP_text_ok hg, hG]
          have HGT := Lib.hid hgt
          have HG0 := Lib.hid (show G.e = 0 by rw [hG])
          have HMF := Lib.hid (show (MF.mk ⟨1, 0, t, zeros32⟩ ta tc) = MF.mk ⟨G.k, G.n, G.t, G.d⟩ ta tc by rw [hG])
          have HEY5 := Lib.hid (show EyeAt w5 q G.left by rw [hG]; exact hey5)
          have HBT := Lib.hid (show BsAt w5 w5.heap.size ta G.t.length tc G.t by rw [hG]; exact hbs5)
          have HOW := Lib.hid (show w5.ownsRow W4.heap.size 5 1 (.slice ta G.t.length tc) G.t.length (G.t.map bv) by rw [hG]; exact hown5)
          have hprow5 := HPR5.out
          obtain ⟨mm, wb, wo, hwa, hwb, hjm, hwant⟩ := HI.out.want HDR.out HGT.out HG0.out HG.out
          have HWANT := Lib.hid hwant
          subst hwa
          clear hgt hG hey5 hg hwant hprow5 hbs5 hown5
          have HK5 := Lib.hid (MF.agg_size (m := (MF.mk ⟨1, 0, t, zeros32⟩ ta tc)) (by simp [zeros32]))
          go_wp2_with (first
            | (refine wpList_build_l rfl 58 [(0, .const (.int .i64 1)), (2, .tmp 40)] rfl [(0, .int .i64 1), (2, .slice ta t.length tc)] rfl (MF.agg (MF.mk ⟨1, 0, t, zeros32⟩ ta tc)) (built_text t ta tc) ?_)
            | (refine wpList_store_abs rfl 58 (.tmp 6) _ rfl (w1.heap.size + 1) (MF.agg (MF.mk ⟨1, 0, t, zeros32⟩ ta tc)) rfl rfl 58 _ HROW5.out (by rw [HK5.out]; exact infoField) (by rw [HK5.out, HZ.out]) (MF.agg_one _) ?_; intro W6 hrow6 hoth6 hb6 hs6; rw [HMF.out] at hrow6; have HTW6 := Lib.hid (show Two q p wr W6 from ⟨hb6.os.trans HTW5.out.os, hb6.tape.trans HTW5.out.tape, hb6.output.trans HTW5.out.output, by omega, fun k h1 h2 h3 => (hoth6 k (by omega)).trans (HTW5.out.block k h1 h2 h3)⟩); have HPR6 := Lib.hid ((hoth6 p (by omega)).trans HPR5.out); have HEY6 := Lib.hid (HEY5.out.keep (hb6.mono (by omega))); have HBT6 := Lib.hid (own_bs (World.ownsRow.kept HOW.out (row := some (w1.heap.size + 1)) ⟨hb6.os, hb6.tape, hb6.output, by omega, fun k hk hne => hoth6 k (fun e => hne (by rw [e]))⟩ (.inr fun e => by have h9 := (own_lt HOW.out e).1; omega)) (by have := HBT.out.hbig; omega)); obtain ⟨-, g1, g2, g3, -⟩ := frow_cells hrow6; have HBW6 := Lib.hid ((HI.out.two.trans HTW6.out).below hB hBp (by omega)); have HS6 := Lib.hid (heldS_of hrow6 HPR6.out (HWANT.out W6 HBW6.out)); obtain ⟨-, -, -, -, a5, a6⟩ := HWANT.out W6 HBW6.out; have A5 := Lib.hid a5; have A6 := Lib.hid a6; have p2 : W6.cell? ⟨p, 2, none⟩ = some (.int .i64 j) := (by rw [cell_of_row _ _ _ _ _ _ HPR6.out]; rfl); clear hrow6 hoth6 hb6 g1 g2 g3 a5 a6))
          clear p2
          have hjm1 : decide ((j : Int) < (mg.length : Int)) = true := by simp; omega
          have HS6' := Lib.hid (show HeldS p (w1.heap.size + 1) wb wo mg.length wc j G ta tc mm W6.drew from HS6.out.keep (N := W6.heap.size) (Below.refl _ _).drew (by omega) (by omega) (by omega))
          refine wp_region_any (by kernel_rfl) ?_
          refine wpAny_of_held (S := HeldS p (w1.heap.size + 1) wb wo mg.length wc j G ta tc mm) _ _ _ _ ?_
          refine heldTake 0 51 rfl rfl (by kernel_rfl) (by kernel_rfl) (by kernel_rfl) (fun _ _ _ h => h) HS6'.out (.inl ⟨by rfl, by intro w' hS; obtain ⟨s1, s2, s3, s4, s5, s6, s7, s8, s9⟩ := hS; go_simp; (try rfl)⟩) ?_
          simp only [List.set_cons_zero, List.set_cons_succ]
          refine heldTake 1 52 rfl rfl (by kernel_rfl) (by kernel_rfl) (by kernel_rfl) (fun _ _ _ h => h) HS6'.out (.inl ⟨by rfl, by intro w' hS; obtain ⟨s1, s2, s3, s4, s5, s6, s7, s8, s9⟩ := hS; go_simp; (try rfl)⟩) ?_
          simp only [List.set_cons_zero, List.set_cons_succ]
          refine heldTake 2 53 rfl rfl (by kernel_rfl) (by kernel_rfl) (by kernel_rfl) (fun _ _ _ h => h) HS6'.out (.inl ⟨by rfl, by intro w' hS; obtain ⟨s1, s2, s3, s4, s5, s6, s7, s8, s9⟩ := hS; go_simp; (try rfl)⟩) ?_
          simp only [List.set_cons_zero, List.set_cons_succ]
          refine heldTake 3 54 rfl rfl (by kernel_rfl) (by kernel_rfl) (by kernel_rfl) (fun _ _ _ h => h) HS6'.out (.inl ⟨by rfl, by intro w' hS; obtain ⟨s1, s2, s3, s4, s5, s6, s7, s8, s9⟩ := hS; go_simp; (try rfl)⟩) ?_
          simp only [List.set_cons_zero, List.set_cons_succ]
          refine heldTake 4 55 rfl rfl (by kernel_rfl) (by kernel_rfl) (by kernel_rfl) (fun _ _ _ h => h) HS6'.out (.inl ⟨by rfl, by intro w' hS; obtain ⟨s1, s2, s3, s4, s5, s6, s7, s8, s9⟩ := hS; go_simp; (try rfl)⟩) ?_
          simp only [List.set_cons_zero, List.set_cons_succ]
          refine heldTake 5 56 rfl rfl (by kernel_rfl) (by kernel_rfl) (by kernel_rfl) (fun _ _ _ h => h) HS6'.out (.inl ⟨by rfl, by intro w' hS; obtain ⟨s1, s2, s3, s4, s5, s6, s7, s8, s9⟩ := hS; go_simp; (try rfl)⟩) ?_
          simp only [List.set_cons_zero, List.set_cons_succ]
          refine heldTake 6 57 rfl rfl (by kernel_rfl) (by kernel_rfl) (by kernel_rfl) (fun _ _ _ h => h) HS6'.out (.inl ⟨by rfl, by intro w' hS; obtain ⟨s1, s2, s3, s4, s5, s6, s7, s8, s9⟩ := hS; go_simp; (try rfl)⟩) ?_
          simp only [List.set_cons_zero, List.set_cons_succ]
          refine heldTake 7 58 rfl rfl (by kernel_rfl) (by kernel_rfl) (by kernel_rfl) (fun _ _ _ h => h) HS6'.out (.inl ⟨by rfl, by intro w' hS; obtain ⟨s1, s2, s3, s4, s5, s6, s7, s8, s9⟩ := hS; go_simp; (try rfl)⟩) ?_
          simp only [List.set_cons_zero, List.set_cons_succ]
          refine heldTake 8 59 rfl rfl (by kernel_rfl) (by kernel_rfl) (by kernel_rfl) (fun _ _ _ h => h) HS6'.out (.inl ⟨by rfl, by intro w' hS; obtain ⟨s1, s2, s3, s4, s5, s6, s7, s8, s9⟩ := hS; go_simp; (try rfl)⟩) ?_
          simp only [List.set_cons_zero, List.set_cons_succ]
          refine heldTake 9 60 rfl rfl (by kernel_rfl) (by kernel_rfl) (by kernel_rfl) (fun _ _ _ h => h) HS6'.out (.inl ⟨by rfl, by intro w' hS; obtain ⟨s1, s2, s3, s4, s5, s6, s7, s8, s9⟩ := hS; go_simp; (try rfl)⟩) ?_
          simp only [List.set_cons_zero, List.set_cons_succ]
          refine heldTake 10 61 rfl rfl (by kernel_rfl) (by kernel_rfl) (by kernel_rfl) (fun _ _ _ h => h) HS6'.out (.inl ⟨by rfl, by intro w' hS; obtain ⟨s1, s2, s3, s4, s5, s6, s7, s8, s9⟩ := hS; go_simp; (try rfl)⟩) ?_
          simp only [List.set_cons_zero, List.set_cons_succ]
          refine heldTake 11 62 rfl rfl (by kernel_rfl) (by kernel_rfl) (by kernel_rfl) (fun _ _ _ h => h) HS6'.out (.inl ⟨by rfl, by intro w' hS; obtain ⟨s1, s2, s3, s4, s5, s6, s7, s8, s9⟩ := hS; go_simp; (try rfl)⟩) ?_
          simp only [List.set_cons_zero, List.set_cons_succ]
          refine heldTake 12 63 rfl rfl (by kernel_rfl) (by kernel_rfl) (by kernel_rfl) (fun _ _ _ h => h) HS6'.out (.inl ⟨by rfl, by intro w' hS; obtain ⟨s1, s2, s3, s4, s5, s6, s7, s8, s9⟩ := hS; go_simp; (try rfl)⟩) ?_
          simp only [List.set_cons_zero, List.set_cons_succ]
          refine heldTake 13 64 rfl rfl (by kernel_rfl) (by kernel_rfl) (by kernel_rfl) (fun _ _ _ h => h) HS6'.out (.inl ⟨by rfl, by intro w' hS; obtain ⟨s1, s2, s3, s4, s5, s6, s7, s8, s9⟩ := hS; go_simp; (try rfl)⟩) ?_
          simp only [List.set_cons_zero, List.set_cons_succ]
          refine heldTake 14 65 rfl rfl (by kernel_rfl) (by kernel_rfl) (by kernel_rfl) (fun _ _ _ h => h) HS6'.out (.inl ⟨by rfl, by intro w' hS; obtain ⟨s1, s2, s3, s4, s5, s6, s7, s8, s9⟩ := hS; go_simp; (try rfl)⟩) ?_
          simp only [List.set_cons_zero, List.set_cons_succ]
          refine heldTake 15 66 rfl rfl (by kernel_rfl) (by kernel_rfl) (by kernel_rfl) (fun _ _ _ h => h) HS6'.out (.inl ⟨by rfl, by intro w' hS; obtain ⟨s1, s2, s3, s4, s5, s6, s7, s8, s9⟩ := hS; go_simp; (try rfl)⟩) ?_
          simp only [List.set_cons_zero, List.set_cons_succ]
          refine heldTake 16 67 rfl rfl (by kernel_rfl) (by kernel_rfl) (by kernel_rfl) (fun _ _ _ h => h) HS6'.out (.inl ⟨by rfl, by intro w' hS; obtain ⟨s1, s2, s3, s4, s5, s6, s7, s8, s9⟩ := hS; go_simp; (try rfl)⟩) ?_
          simp only [List.set_cons_zero, List.set_cons_succ]
          refine heldTake 17 68 rfl rfl (by kernel_rfl) (by kernel_rfl) (by kernel_rfl) (fun _ _ _ h => h) HS6'.out (.inl ⟨by rfl, by intro w' hS; obtain ⟨s1, s2, s3, s4, s5, s6, s7, s8, s9⟩ := hS; go_simp; (try rfl)⟩) ?_
          simp only [List.set_cons_zero, List.set_cons_succ]
          refine heldTake 18 69 rfl rfl (by kernel_rfl) (by kernel_rfl) (by kernel_rfl) (fun _ _ _ h => h) HS6'.out (.inl ⟨by rfl, by intro w' hS; obtain ⟨s1, s2, s3, s4, s5, s6, s7, s8, s9⟩ := hS; go_simp; (try rfl)⟩) ?_
          simp only [List.set_cons_zero, List.set_cons_succ]
          refine heldTake 19 70 rfl rfl (by kernel_rfl) (by kernel_rfl) (by kernel_rfl) (fun _ _ _ h => h) HS6'.out (.inl ⟨by rfl, by intro w' hS; obtain ⟨s1, s2, s3, s4, s5, s6, s7, s8, s9⟩ := hS; go_simp; (try rfl)⟩) ?_
          simp only [List.set_cons_zero, List.set_cons_succ]
          refine heldTake 20 71 rfl rfl (by kernel_rfl) (by kernel_rfl) (by kernel_rfl) (fun _ _ _ h => h) HS6'.out (.inl ⟨by rfl, by intro w' hS; obtain ⟨s1, s2, s3, s4, s5, s6, s7, s8, s9⟩ := hS; go_simp; (try rfl)⟩) ?_
          simp only [List.set_cons_zero, List.set_cons_succ]
          refine heldTake 21 72 rfl rfl (by kernel_rfl) (by kernel_rfl) (by kernel_rfl) (fun _ _ _ h => h) HS6'.out (.inl ⟨by rfl, by intro w' hS; obtain ⟨s1, s2, s3, s4, s5, s6, s7, s8, s9⟩ := hS; go_simp; (try rfl)⟩) ?_
          simp only [List.set_cons_zero, List.set_cons_succ]
          refine heldTake 22 73 rfl rfl (by kernel_rfl) (by kernel_rfl) (by kernel_rfl) (fun _ _ _ h => h) HS6'.out (.inl ⟨by rfl, by intro w' hS; obtain ⟨s1, s2, s3, s4, s5, s6, s7, s8, s9⟩ := hS; go_simp; (try rfl)⟩) ?_
          simp only [List.set_cons_zero, List.set_cons_succ]
          refine heldTake 23 74 rfl rfl (by kernel_rfl) (by kernel_rfl) (by kernel_rfl) (fun _ _ _ h => h) HS6'.out (.inl ⟨by rfl, by intro w' hS; obtain ⟨s1, s2, s3, s4, s5, s6, s7, s8, s9⟩ := hS; go_simp; (try rfl)⟩) ?_
          simp only [List.set_cons_zero, List.set_cons_succ]
          refine heldTake 24 75 rfl rfl (by kernel_rfl) (by kernel_rfl) (by kernel_rfl) (fun _ _ _ h => h) HS6'.out (.inl ⟨by rfl, by intro w' hS; obtain ⟨s1, s2, s3, s4, s5, s6, s7, s8, s9⟩ := hS; go_simp; (try rfl)⟩) ?_
          simp only [List.set_cons_zero, List.set_cons_succ]
          refine heldTake 25 76 rfl rfl (by kernel_rfl) (by kernel_rfl) (by kernel_rfl) (fun _ _ _ h => h) HS6'.out (.inl ⟨by rfl, by intro w' hS; obtain ⟨s1, s2, s3, s4, s5, s6, s7, s8, s9⟩ := hS; go_simp; (try rfl)⟩) ?_
          simp only [List.set_cons_zero, List.set_cons_succ]
          refine heldTake 26 77 rfl rfl (by kernel_rfl) (by kernel_rfl) (by kernel_rfl) (fun _ _ _ h => h) HS6'.out (.inl ⟨by rfl, by intro w' hS; obtain ⟨s1, s2, s3, s4, s5, s6, s7, s8, s9⟩ := hS; go_simp; (try rfl)⟩) ?_
          simp only [List.set_cons_zero, List.set_cons_succ]
          refine heldTake 27 78 rfl rfl (by kernel_rfl) (by kernel_rfl) (by kernel_rfl) (fun _ _ _ h => h) HS6'.out (.inl ⟨by rfl, by intro w' hS; obtain ⟨s1, s2, s3, s4, s5, s6, s7, s8, s9⟩ := hS; go_simp; (try rfl)⟩) ?_
          simp only [List.set_cons_zero, List.set_cons_succ]
          refine heldTake 28 79 rfl rfl (by kernel_rfl) (by kernel_rfl) (by kernel_rfl) (fun _ _ _ h => h) HS6'.out (.inl ⟨by rfl, by intro w' hS; obtain ⟨s1, s2, s3, s4, s5, s6, s7, s8, s9⟩ := hS; go_simp; (try rfl)⟩) ?_
          simp only [List.set_cons_zero, List.set_cons_succ]
          refine heldTake 29 80 rfl rfl (by kernel_rfl) (by kernel_rfl) (by kernel_rfl) (fun _ _ _ h => h) HS6'.out (.inl ⟨by rfl, by intro w' hS; obtain ⟨s1, s2, s3, s4, s5, s6, s7, s8, s9⟩ := hS; go_simp; (try rfl)⟩) ?_
          simp only [List.set_cons_zero, List.set_cons_succ]
          refine heldTake 30 81 rfl rfl (by kernel_rfl) (by kernel_rfl) (by kernel_rfl) (fun _ _ _ h => h) HS6'.out (yieldsIf_load_mid (by rfl) 56 (.tmp 80) rfl (w1.heap.size + 1) 3 rfl (G.d.map bv) _ (fun _ h => h.g3) Try.underlying56 rfl (by rw [List.length_map, A6.out]; exact infoId)) ?_
          simp only [List.set_cons_zero, List.set_cons_succ]
          refine heldTake 31 82 rfl rfl (by kernel_rfl) (by kernel_rfl) (by kernel_rfl) (fun _ _ _ h => h) HS6'.out (.inl ⟨by rfl, by intro w' hS; obtain ⟨s1, s2, s3, s4, s5, s6, s7, s8, s9⟩ := hS; go_simp; (try rfl)⟩) ?_
          simp only [List.set_cons_zero, List.set_cons_succ]
          refine heldTake 32 83 rfl rfl (by kernel_rfl) (by kernel_rfl) (by kernel_rfl) (fun _ _ _ h => h) HS6'.out (.inl ⟨by rfl, by intro w' hS; obtain ⟨s1, s2, s3, s4, s5, s6, s7, s8, s9⟩ := hS; go_simp; (try rfl)⟩) ?_
          simp only [List.set_cons_zero, List.set_cons_succ]
          refine heldTake 33 84 rfl rfl (by kernel_rfl) (by kernel_rfl) (by kernel_rfl) (fun _ _ _ h => h) HS6'.out (.inl ⟨by rfl, by intro w' hS; obtain ⟨s1, s2, s3, s4, s5, s6, s7, s8, s9⟩ := hS; go_simp; (try rfl)⟩) ?_
          simp only [List.set_cons_zero, List.set_cons_succ]
          refine heldTake 34 85 rfl rfl (by kernel_rfl) (by kernel_rfl) (by kernel_rfl) (fun _ _ _ h => h) HS6'.out (.inl ⟨by rfl, by intro w' hS; obtain ⟨s1, s2, s3, s4, s5, s6, s7, s8, s9⟩ := hS; go_simp; (try rfl)⟩) ?_
          simp only [List.set_cons_zero, List.set_cons_succ]
          refine heldTake 35 86 rfl rfl (by kernel_rfl) (by kernel_rfl) (by kernel_rfl) (fun _ _ _ h => h) HS6'.out (.inl ⟨by rfl, by intro w' hS; obtain ⟨s1, s2, s3, s4, s5, s6, s7, s8, s9⟩ := hS; go_simp; (try rfl)⟩) ?_
          simp only [List.set_cons_zero, List.set_cons_succ]
          refine heldTake 36 87 rfl rfl (by kernel_rfl) (by kernel_rfl) (by kernel_rfl) (fun _ _ _ h => h) HS6'.out (.inl ⟨by rfl, by intro w' hS; obtain ⟨s1, s2, s3, s4, s5, s6, s7, s8, s9⟩ := hS; go_simp; (try rfl)⟩) ?_
          simp only [List.set_cons_zero, List.set_cons_succ]
          refine heldTake 37 88 rfl rfl (by kernel_rfl) (by kernel_rfl) (by kernel_rfl) (fun _ _ _ h => h) HS6'.out (.inl ⟨by rfl, by intro w' hS; obtain ⟨s1, s2, s3, s4, s5, s6, s7, s8, s9⟩ := hS; go_simp; (try rfl)⟩) ?_
          simp only [List.set_cons_zero, List.set_cons_succ]
          refine heldTake 38 89 rfl rfl (by kernel_rfl) (by kernel_rfl) (by kernel_rfl) (fun _ _ _ h => h) HS6'.out (.inl ⟨by rfl, by intro w' hS; obtain ⟨s1, s2, s3, s4, s5, s6, s7, s8, s9⟩ := hS; go_simp; (try rfl)⟩) ?_
          simp only [List.set_cons_zero, List.set_cons_succ]
          refine heldTake 39 90 rfl rfl (by kernel_rfl) (by kernel_rfl) (by kernel_rfl) (fun _ _ _ h => h) HS6'.out (yieldsIf_load_mid (by rfl) 56 (.tmp 89) rfl wb (wo + j * 37 + 3) rfl (G.d.map bv) _ (fun _ h => h.a3) Try.underlying56 rfl (by rw [List.length_map, A6.out]; exact infoId)) ?_
          simp only [List.set_cons_zero, List.set_cons_succ]
          have heq := run_eql_id G.d G.d A6.out A6.out
          rw [beq_self_eq_true] at heq
          refine heldTake 40 91 rfl rfl (by kernel_rfl) (by kernel_rfl) (by kernel_rfl) (fun _ _ _ h => h) HS6'.out (.inl ⟨by rfl, by intro w' hS; obtain ⟨s1, s2, s3, s4, s5, s6, s7, s8, s9⟩ := hS; go_simp; (try rfl)⟩) ?_
          simp only [List.set_cons_zero, List.set_cons_succ]
          refine heldTake 41 92 rfl rfl (by kernel_rfl) (by kernel_rfl) (by kernel_rfl) (fun _ _ _ h => h) HS6'.out (.inl ⟨by rfl, by intro w' hS; obtain ⟨s1, s2, s3, s4, s5, s6, s7, s8, s9⟩ := hS; go_simp; (try rfl)⟩) ?_
          simp only [List.set_cons_zero, List.set_cons_succ]
          refine heldTake 42 93 rfl rfl (by kernel_rfl) (by kernel_rfl) (by kernel_rfl) (fun _ _ _ h => h) HS6'.out (.inl ⟨by rfl, by intro w' hS; obtain ⟨s1, s2, s3, s4, s5, s6, s7, s8, s9⟩ := hS; go_simp; (try rfl)⟩) ?_
          simp only [List.set_cons_zero, List.set_cons_succ]
          refine heldTake 43 94 rfl rfl (by kernel_rfl) (by kernel_rfl) (by kernel_rfl) (fun _ _ _ h => h) HS6'.out (.inl ⟨by rfl, by intro w' hS; obtain ⟨s1, s2, s3, s4, s5, s6, s7, s8, s9⟩ := hS; go_simp; (try rfl)⟩) ?_
          simp only [List.set_cons_zero, List.set_cons_succ]
          refine heldTake 44 95 rfl rfl (by kernel_rfl) (by kernel_rfl) (by kernel_rfl) (fun _ _ _ h => h) HS6'.out (.inl ⟨by rfl, by intro w' hS; obtain ⟨s1, s2, s3, s4, s5, s6, s7, s8, s9⟩ := hS; go_simp; (try rfl)⟩) ?_
          simp only [List.set_cons_zero, List.set_cons_succ]
          refine heldTake 45 96 rfl rfl (by kernel_rfl) (by kernel_rfl) (by kernel_rfl) (fun _ _ _ h => h) HS6'.out (.inl ⟨by rfl, by intro w' hS; obtain ⟨s1, s2, s3, s4, s5, s6, s7, s8, s9⟩ := hS; go_simp; (try rfl)⟩) ?_
          simp only [List.set_cons_zero, List.set_cons_succ]
          refine heldTake 46 97 rfl rfl (by kernel_rfl) (by kernel_rfl) (by kernel_rfl) (fun _ _ _ h => h) HS6'.out (.inl ⟨by rfl, by intro w' hS; obtain ⟨s1, s2, s3, s4, s5, s6, s7, s8, s9⟩ := hS; go_simp; (try rfl)⟩) ?_
          simp only [List.set_cons_zero, List.set_cons_succ]
          refine heldTake 47 98 rfl rfl (by kernel_rfl) (by kernel_rfl) (by kernel_rfl) (fun _ _ _ h => h) HS6'.out (.inl ⟨by rfl, by intro w' hS; obtain ⟨s1, s2, s3, s4, s5, s6, s7, s8, s9⟩ := hS; go_simp; (try rfl)⟩) ?_
          simp only [List.set_cons_zero, List.set_cons_succ]
          refine heldTake 48 99 rfl rfl (by kernel_rfl) (by kernel_rfl) (by kernel_rfl) (fun _ _ _ h => h) HS6'.out (.inl ⟨by rfl, by intro w' hS; obtain ⟨s1, s2, s3, s4, s5, s6, s7, s8, s9⟩ := hS; go_simp; (try rfl)⟩) ?_
          simp only [List.set_cons_zero, List.set_cons_succ]
          refine heldTake 49 100 rfl rfl (by kernel_rfl) (by kernel_rfl) (by kernel_rfl) (fun _ _ _ h => h) HS6'.out (.inl ⟨by rfl, by intro w' hS; obtain ⟨s1, s2, s3, s4, s5, s6, s7, s8, s9⟩ := hS; go_simp; (try rfl)⟩) ?_
          simp only [List.set_cons_zero, List.set_cons_succ]
          refine heldTake 50 101 rfl rfl (by kernel_rfl) (by kernel_rfl) (by kernel_rfl) (fun _ _ _ h => h) HS6'.out (.inl ⟨by rfl, by intro w' hS; obtain ⟨s1, s2, s3, s4, s5, s6, s7, s8, s9⟩ := hS; go_simp; (try rfl)⟩) ?_
          simp only [List.set_cons_zero, List.set_cons_succ]
          refine heldTake 51 102 rfl rfl (by kernel_rfl) (by kernel_rfl) (by kernel_rfl) (fun _ _ _ h => h) HS6'.out (.inl ⟨by rfl, by intro w' hS; obtain ⟨s1, s2, s3, s4, s5, s6, s7, s8, s9⟩ := hS; go_simp; (try rfl)⟩) ?_
          simp only [List.set_cons_zero, List.set_cons_succ]
          refine heldTake 52 103 rfl rfl (by kernel_rfl) (by kernel_rfl) (by kernel_rfl) (fun _ _ _ h => h) HS6'.out (.inl ⟨by rfl, by intro w' hS; obtain ⟨s1, s2, s3, s4, s5, s6, s7, s8, s9⟩ := hS; go_simp; (try rfl)⟩) ?_
          simp only [List.set_cons_zero, List.set_cons_succ]
          refine heldTake 53 104 rfl rfl (by kernel_rfl) (by kernel_rfl) (by kernel_rfl) (fun _ _ _ h => h) HS6'.out (.inl ⟨by rfl, by intro w' hS; obtain ⟨s1, s2, s3, s4, s5, s6, s7, s8, s9⟩ := hS; go_simp; (try rfl)⟩) ?_
          simp only [List.set_cons_zero, List.set_cons_succ]
          clear heq
          refine heldOne 54 (by kernel_rfl) rfl (by rfl) ?_
          go_simp
          refine (r1Bytes G.t G.t _ _ _ _ _ _ W6.drew (HBT6.out.below (w' := W6.drew) (Below.refl _ _).drew (Nat.le_refl _)) ((A5.out.mono (show B ≤ W6.heap.size by omega)).below (w' := W6.drew) (Below.refl _ _).drew (Nat.le_refl _))).mono ?_
          rintro e w7 ⟨rfl, hb7⟩
          simp only [decide_true]
          have hs7 : W6.heap.size ≤ w7.heap.size := hb7.size
          have hbb7 : Below W6.heap.size W6 w7 := (Below.refl _ W6).drew.trans hb7
          have HEY7 := Lib.hid (HEY6.out.below hbb7)
          have HTW7 := Lib.hid (HTW6.out.trans (Two.ofBut (But.ofBelow (by omega) hbb7)))
          have HPR7 := Lib.hid ((hbb7.block p (by omega)).trans HPR6.out)
          have HS7 := Lib.hid (HS6.out.keep hbb7 (by omega) (by omega) (by omega))
          refine ⟨HS7.out, ?_⟩
          clear hb7 hbb7
          refine heldTake 55 106 rfl rfl (by kernel_rfl) (by kernel_rfl) (by kernel_rfl) (fun _ _ _ h => h) HS7.out (.inl ⟨by rfl, by intro w' hS; obtain ⟨s1, s2, s3, s4, s5, s6, s7, s8, s9⟩ := hS; go_simp; (try rfl)⟩) ?_
          simp only [List.set_cons_zero, List.set_cons_succ]
          refine heldTake 56 107 rfl rfl (by kernel_rfl) (by kernel_rfl) (by kernel_rfl) (fun _ _ _ h => h) HS7.out (.inl ⟨by rfl, by intro w' hS; obtain ⟨s1, s2, s3, s4, s5, s6, s7, s8, s9⟩ := hS; go_simp; (try rfl)⟩) ?_
          simp only [List.set_cons_zero, List.set_cons_succ]
          refine heldTake 57 108 rfl rfl (by kernel_rfl) (by kernel_rfl) (by kernel_rfl) (fun _ _ _ h => h) HS7.out (.inl ⟨by rfl, by intro w' hS; obtain ⟨s1, s2, s3, s4, s5, s6, s7, s8, s9⟩ := hS; go_simp; (try rfl)⟩) ?_
          simp only [List.set_cons_zero, List.set_cons_succ]
          refine heldTake 59 110 rfl rfl (by kernel_rfl) (by kernel_rfl) (by kernel_rfl) (fun _ _ _ h => h) HS7.out (.inl ⟨by rfl, by intro w' hS; obtain ⟨s1, s2, s3, s4, s5, s6, s7, s8, s9⟩ := hS; go_simp; (try rfl)⟩) ?_
          simp only [List.set_cons_zero, List.set_cons_succ]
          refine heldTake 60 111 rfl rfl (by kernel_rfl) (by kernel_rfl) (by kernel_rfl) (fun _ _ _ h => h) HS7.out (.inl ⟨by rfl, by intro w' hS; obtain ⟨s1, s2, s3, s4, s5, s6, s7, s8, s9⟩ := hS; go_simp; (try rfl)⟩) ?_
          simp only [List.set_cons_zero, List.set_cons_succ]
          refine heldTake 61 112 rfl rfl (by kernel_rfl) (by kernel_rfl) (by kernel_rfl) (fun _ _ _ h => h) HS7.out (.inl ⟨by rfl, by intro w' hS; obtain ⟨s1, s2, s3, s4, s5, s6, s7, s8, s9⟩ := hS; go_simp; (try rfl)⟩) ?_
          simp only [List.set_cons_zero, List.set_cons_succ]
          refine heldTake 62 113 rfl rfl (by kernel_rfl) (by kernel_rfl) (by kernel_rfl) (fun _ _ _ h => h) HS7.out (.inl ⟨by rfl, by intro w' hS; obtain ⟨s1, s2, s3, s4, s5, s6, s7, s8, s9⟩ := hS; go_simp; (try rfl)⟩) ?_
          simp only [List.set_cons_zero, List.set_cons_succ]
          refine heldTake 63 114 rfl rfl (by kernel_rfl) (by kernel_rfl) (by kernel_rfl) (fun _ _ _ h => h) HS7.out (.inl ⟨by rfl, by intro w' hS; obtain ⟨s1, s2, s3, s4, s5, s6, s7, s8, s9⟩ := hS; go_simp; (try rfl)⟩) ?_
          simp only [List.set_cons_zero, List.set_cons_succ]
          refine heldTake 64 115 rfl rfl (by kernel_rfl) (by kernel_rfl) (by kernel_rfl) (fun _ _ _ h => h) HS7.out (.inl ⟨by rfl, by intro w' hS; obtain ⟨s1, s2, s3, s4, s5, s6, s7, s8, s9⟩ := hS; go_simp; (try rfl)⟩) ?_
          simp only [List.set_cons_zero, List.set_cons_succ]
          refine heldTake 65 116 rfl rfl (by kernel_rfl) (by kernel_rfl) (by kernel_rfl) (fun _ _ _ h => h) HS7.out (.inl ⟨by rfl, by intro w' hS; obtain ⟨s1, s2, s3, s4, s5, s6, s7, s8, s9⟩ := hS; go_simp; (try rfl)⟩) ?_
          simp only [List.set_cons_zero, List.set_cons_succ]
          refine heldTake 66 117 rfl rfl (by kernel_rfl) (by kernel_rfl) (by kernel_rfl) (fun _ _ _ h => h) HS7.out (.inl ⟨by rfl, by intro w' hS; obtain ⟨s1, s2, s3, s4, s5, s6, s7, s8, s9⟩ := hS; go_simp; (try rfl)⟩) ?_
          simp only [List.set_cons_zero, List.set_cons_succ]
          refine heldTake 67 118 rfl rfl (by kernel_rfl) (by kernel_rfl) (by kernel_rfl) (fun _ _ _ h => h) HS7.out (.inl ⟨by rfl, by intro w' hS; obtain ⟨s1, s2, s3, s4, s5, s6, s7, s8, s9⟩ := hS; go_simp; (try rfl)⟩) ?_
          simp only [List.set_cons_zero, List.set_cons_succ]
          refine heldOne 58 (by kernel_rfl) rfl (by rfl) ?_
          go_simp
          refine (eyeLeft q G.left _ HEY7.out).mono ?_
          rintro e w8 ⟨rfl, rfl⟩
          refine ⟨HS7.out, ?_⟩
          refine heldTake 68 119 rfl rfl (by kernel_rfl) (by kernel_rfl) (by kernel_rfl) (fun _ _ _ h => h) HS7.out (.inl ⟨by rfl, by intro w' hS; obtain ⟨s1, s2, s3, s4, s5, s6, s7, s8, s9⟩ := hS; go_simp; (try rfl)⟩) ?_
          simp only [List.set_cons_zero, List.set_cons_succ]
          refine heldTake 69 120 rfl rfl (by kernel_rfl) (by kernel_rfl) (by kernel_rfl) (fun _ _ _ h => h) HS7.out (.inl ⟨by rfl, by intro w' hS; obtain ⟨s1, s2, s3, s4, s5, s6, s7, s8, s9⟩ := hS; go_simp; (try rfl)⟩) ?_
          simp only [List.set_cons_zero, List.set_cons_succ]
          refine heldTake 70 121 rfl rfl (by kernel_rfl) (by kernel_rfl) (by kernel_rfl) (fun _ _ _ h => h) HS7.out (.inl ⟨by rfl, by intro w' hS; obtain ⟨s1, s2, s3, s4, s5, s6, s7, s8, s9⟩ := hS; go_simp; (try rfl)⟩) ?_
          simp only [List.set_cons_zero, List.set_cons_succ]
          refine heldTake 71 122 rfl rfl (by kernel_rfl) (by kernel_rfl) (by kernel_rfl) (fun _ _ _ h => h) HS7.out (.inl ⟨by rfl, by intro w' hS; obtain ⟨s1, s2, s3, s4, s5, s6, s7, s8, s9⟩ := hS; go_simp; (try rfl)⟩) ?_
          simp only [List.set_cons_zero, List.set_cons_succ]
          refine heldOne 72 (by kernel_rfl) rfl (by rfl) ?_
          have p3 := HS7.out.p3
          have f3 : w7.frozen? ⟨p, 3, none⟩ = false := frozen_of_row _ _ _ _ _ HPR7.out
          refine wp_store_cell 4 (.tmp 122) (.tmp 120) rfl p 3 (.bool true) _ rfl rfl rfl infoBool p3 f3 ?_
          refine ⟨HS7.out.set (by omega) (by omega), wpAnyH_done (by kernel_rfl) ?_ _⟩
          have p2 : w7.cell? ⟨p, 2, none⟩ = some (.int .i64 j) := (by rw [cell_of_row _ _ _ _ _ _ HPR7.out]; rfl)
          have f2 : w7.frozen? ⟨p, 2, none⟩ = false := frozen_of_row _ _ _ _ _ HPR7.out
          have hrow8 : ((w7.setCell ⟨p, 3, none⟩ (.bool true)).setCell ⟨p, 2, none⟩ (.int .i64 ((j : Int) + 1))).heap[p]? = some (.cells (heldRow (some ⟨b, o, none⟩) ms.length lc (some ⟨wb, wo, none⟩) mg.length wc (j + 1)) 65 (0, 0)) := by
            have h8 := heap_setCell_same w7 p 3 _ _ (.bool true) HPR7.out
            have h9 := heap_setCell_same _ p 2 _ _ (.int .i64 ((j : Int) + 1)) h8
            rwa [heldRow_turn] at h9
          have hey8 : EyeAt ((w7.setCell ⟨p, 3, none⟩ (.bool true)).setCell ⟨p, 2, none⟩ (.int .i64 ((j : Int) + 1))) q G.left :=
            (HEY7.out.setOther hpq p3 (fun c e => by cases e) _).setOther hpq ((World.cell?_setCell_other _ _ _ _ (by intro e2; injection e2 with e3 e4; omega)).trans p2) (fun c e => by cases e) _
          have HIN := Lib.hid (HI.out.turn HDR.out hlt HGT.out HG0.out ((HTW7.out.trans (Two.set _ _)).trans (Two.set _ _)) hrow8 hey8)
          clear hrow8 hey8
          go_wp2
          go_roundw
          case rel => exact ⟨j + 1, G.left, by go_num, HIN.out⟩
          case measure => simp [intOf]; omega
      · skip
        have HKK := Lib.hid (show m.kind.f.k = 2 from hk)
        have HKD := Lib.hid hk
        clear hk
        go_wp2_with (first
          | (refine wpList_alloc_abs rfl 58 rfl (MF.agg ⟨⟨0, 0, [], zeros32⟩, none, 0⟩) zero_field ?_; first | (guard_hyp HROW3 : _; intro W4 hrow4 hb4 hs4; have HROW4 := Lib.hid hrow4; have HB4 := Lib.hid (HB3.out.trans (hb4.mono (by omega))); have HRK := Lib.hid ((hb4.block w1.heap.size (by omega)).trans HROW3.out); obtain ⟨d0, d1, d2, d3, -⟩ := frow_cells HRK.out; rw [HKK.out] at d0; clear hrow4 hb4 d1 d2 d3) | (intro W2 hrow2 hb2 hs2; have HROW2 := Lib.hid hrow2; have HB2 := Lib.hid hb2; clear hrow2 hb2))
          | (refine wpList_store_abs rfl 58 (.tmp 5) _ rfl w1.heap.size m.kind.agg rfl rfl 58 _ HROW2.out (by rw [HK.out]; exact infoField) (by rw [HK.out, HZ.out]) (MF.agg_one _) ?_; intro W3 hrow3 hoth3 hb3 hs3; have HROW3 := Lib.hid hrow3; have HB3 := Lib.hid (HB2.out.trans hb3); clear hrow3 hoth3 hb3))
        have hsw : W4.heap.size = w1.heap.size + 2 := by omega
        have HROW4' := Lib.hid (show W4.heap[w1.heap.size + 1]? = some (.cells (MF.agg ⟨⟨0, 0, [], zeros32⟩, none, 0⟩) 58 (0, 0)) by have h9 := HROW4.out; rwa [show W3.heap.size = w1.heap.size + 1 by omega] at h9)
        have HEY4 := Lib.hid ((HI.out.eye.below HB1.out).below HB4.out)
        have HTW4 := Lib.hid (show Two q p wr W4 from (Two.ofBut (But.ofBelow (by omega) HB1.out)).trans (Two.ofBut (But.ofBelow (by omega) HB4.out)))
        have HPR4 := Lib.hid ((HB4.out.block p (by omega)).trans ((HB1.out.block p (by omega)).trans HPR.out))
        refine (eyeId q l' _ HEY4.out).mono ?_
        rintro e w5 ⟨hb5, hr5⟩
        have hs5 := hb5.size
        have HTW5 := Lib.hid (HTW4.out.trans (Two.ofBut hb5))
        have HPR5 := Lib.hid ((hb5.block p (by omega) hpq).trans HPR4.out)
        have HROW5 := Lib.hid ((hb5.block (w1.heap.size + 1) (by omega) (by omega)).trans HROW4'.out)
        clear hb5 d0
        cases hg : getTake 32 l' with
        | err x =>
          rw [hg] at hr5
          obtain rfl : e = broke x := hr5
          have hx0 : x ≠ 0 := by have := getTake_errs hg; omega
          obtain ⟨hx, hmj⟩ := HI.out.stop HDR.out (by rw [take_id HKD.out, takeP_id_err hg]) hx0
          have HEND := Lib.hid (show HeldEnd q p (some ⟨b, o, none⟩) ms.length lc wa mg.length wc X.1 X.2 w w5 (broke x) from ⟨HI.out.two.trans HTW5.out, by rw [hmj]; have h9 := HPR5.out; rwa [hmj] at h9, fun _ => by rw [HX.out, hx], fun h9 => absurd (by rw [← h9, HX.out, hx]) hx0⟩)
          clear hg hx0 hx hmj
          go_wp2
          exact ⟨rfl, HEND.out⟩
        | ok d r =>
          rw [hg] at hr5
          obtain ⟨rfl, hey5⟩ := hr5
          obtain ⟨G, hG⟩ : ∃ G, G = (⟨2, 0, [], d, 0, r⟩ : PGot) := ⟨_, rfl⟩
          have hgt : m.f.take l' = G := by rw [take_id HKD.out, takeP_id_ok hg, hG]
          have HGT := Lib.hid hgt
          have HG0 := Lib.hid (show G.e = 0 by rw [hG])
          have HMF := Lib.hid (show (MF.mk ⟨2, 0, [], d⟩ none 0) = MF.mk ⟨G.k, G.n, G.t, G.d⟩ none 0 by rw [hG])
          have HEY5 := Lib.hid (show EyeAt w5 q G.left by rw [hG]; exact hey5)
          have HBT := Lib.hid (show BsAt w5 w5.heap.size none G.t.length 0 G.t by rw [hG]; exact BsAt.zero _ _ _ _ (by simp [maxLen]) (fun _ => rfl))
          have HDL := Lib.hid (take_put hg).2
          have hprow5 := HPR5.out
          obtain ⟨mm, wb, wo, hwa, hwb, hjm, hwant⟩ := HI.out.want HDR.out HGT.out HG0.out HG.out
          have HWANT := Lib.hid hwant
          subst hwa
          clear hgt hG hey5 hg hwant hprow5
          have HK5 := Lib.hid (MF.agg_size (m := (MF.mk ⟨2, 0, [], d⟩ none 0)) HDL.out)
          go_wp2_with (first
            | (refine wpList_build_l rfl 58 [(0, .const (.int .i64 2)), (3, .tmp 45)] rfl [(0, .int .i64 2), (3, .agg (d.map bv).toArray)] rfl (MF.agg (MF.mk ⟨2, 0, [], d⟩ none 0)) (built_id d HDL.out) ?_)
            | (refine wpList_store_abs rfl 58 (.tmp 6) _ rfl (w1.heap.size + 1) (MF.agg (MF.mk ⟨2, 0, [], d⟩ none 0)) rfl rfl 58 _ HROW5.out (by rw [HK5.out]; exact infoField) (by rw [HK5.out, HZ.out]) (MF.agg_one _) ?_; intro W6 hrow6 hoth6 hb6 hs6; rw [HMF.out] at hrow6; have HTW6 := Lib.hid (show Two q p wr W6 from ⟨hb6.os.trans HTW5.out.os, hb6.tape.trans HTW5.out.tape, hb6.output.trans HTW5.out.output, by omega, fun k h1 h2 h3 => (hoth6 k (by omega)).trans (HTW5.out.block k h1 h2 h3)⟩); have HPR6 := Lib.hid ((hoth6 p (by omega)).trans HPR5.out); have HEY6 := Lib.hid (HEY5.out.keep (hb6.mono (by omega))); have HBT6 := Lib.hid (show BsAt W6 W6.heap.size none G.t.length 0 G.t from BsAt.none (HBT.out)); obtain ⟨-, g1, g2, g3, -⟩ := frow_cells hrow6; have HBW6 := Lib.hid ((HI.out.two.trans HTW6.out).below hB hBp (by omega)); have HS6 := Lib.hid (heldS_of hrow6 HPR6.out (HWANT.out W6 HBW6.out)); obtain ⟨-, -, -, -, a5, a6⟩ := HWANT.out W6 HBW6.out; have A5 := Lib.hid a5; have A6 := Lib.hid a6; have p2 : W6.cell? ⟨p, 2, none⟩ = some (.int .i64 j) := (by rw [cell_of_row _ _ _ _ _ _ HPR6.out]; rfl); clear hrow6 hoth6 hb6 g1 g2 g3 a5 a6))
          clear p2
          have hjm1 : decide ((j : Int) < (mg.length : Int)) = true := by simp; omega
          have HS6' := Lib.hid (show HeldS p (w1.heap.size + 1) wb wo mg.length wc j G none 0 mm W6.drew from HS6.out.keep (N := W6.heap.size) (Below.refl _ _).drew (by omega) (by omega) (by omega))
          refine wp_region_any (by kernel_rfl) ?_
          refine wpAny_of_held (S := HeldS p (w1.heap.size + 1) wb wo mg.length wc j G none 0 mm) _ _ _ _ ?_
          refine heldTake 0 51 rfl rfl (by kernel_rfl) (by kernel_rfl) (by kernel_rfl) (fun _ _ _ h => h) HS6'.out (.inl ⟨by rfl, by intro w' hS; obtain ⟨s1, s2, s3, s4, s5, s6, s7, s8, s9⟩ := hS; go_simp; (try rfl)⟩) ?_
          simp only [List.set_cons_zero, List.set_cons_succ]
          refine heldTake 1 52 rfl rfl (by kernel_rfl) (by kernel_rfl) (by kernel_rfl) (fun _ _ _ h => h) HS6'.out (.inl ⟨by rfl, by intro w' hS; obtain ⟨s1, s2, s3, s4, s5, s6, s7, s8, s9⟩ := hS; go_simp; (try rfl)⟩) ?_
          simp only [List.set_cons_zero, List.set_cons_succ]
          refine heldTake 2 53 rfl rfl (by kernel_rfl) (by kernel_rfl) (by kernel_rfl) (fun _ _ _ h => h) HS6'.out (.inl ⟨by rfl, by intro w' hS; obtain ⟨s1, s2, s3, s4, s5, s6, s7, s8, s9⟩ := hS; go_simp; (try rfl)⟩) ?_
          simp only [List.set_cons_zero, List.set_cons_succ]
          refine heldTake 3 54 rfl rfl (by kernel_rfl) (by kernel_rfl) (by kernel_rfl) (fun _ _ _ h => h) HS6'.out (.inl ⟨by rfl, by intro w' hS; obtain ⟨s1, s2, s3, s4, s5, s6, s7, s8, s9⟩ := hS; go_simp; (try rfl)⟩) ?_
          simp only [List.set_cons_zero, List.set_cons_succ]
          refine heldTake 4 55 rfl rfl (by kernel_rfl) (by kernel_rfl) (by kernel_rfl) (fun _ _ _ h => h) HS6'.out (.inl ⟨by rfl, by intro w' hS; obtain ⟨s1, s2, s3, s4, s5, s6, s7, s8, s9⟩ := hS; go_simp; (try rfl)⟩) ?_
          simp only [List.set_cons_zero, List.set_cons_succ]
          refine heldTake 5 56 rfl rfl (by kernel_rfl) (by kernel_rfl) (by kernel_rfl) (fun _ _ _ h => h) HS6'.out (.inl ⟨by rfl, by intro w' hS; obtain ⟨s1, s2, s3, s4, s5, s6, s7, s8, s9⟩ := hS; go_simp; (try rfl)⟩) ?_
          simp only [List.set_cons_zero, List.set_cons_succ]
          refine heldTake 6 57 rfl rfl (by kernel_rfl) (by kernel_rfl) (by kernel_rfl) (fun _ _ _ h => h) HS6'.out (.inl ⟨by rfl, by intro w' hS; obtain ⟨s1, s2, s3, s4, s5, s6, s7, s8, s9⟩ := hS; go_simp; (try rfl)⟩) ?_
          simp only [List.set_cons_zero, List.set_cons_succ]
          refine heldTake 7 58 rfl rfl (by kernel_rfl) (by kernel_rfl) (by kernel_rfl) (fun _ _ _ h => h) HS6'.out (.inl ⟨by rfl, by intro w' hS; obtain ⟨s1, s2, s3, s4, s5, s6, s7, s8, s9⟩ := hS; go_simp; (try rfl)⟩) ?_
          simp only [List.set_cons_zero, List.set_cons_succ]
          refine heldTake 8 59 rfl rfl (by kernel_rfl) (by kernel_rfl) (by kernel_rfl) (fun _ _ _ h => h) HS6'.out (.inl ⟨by rfl, by intro w' hS; obtain ⟨s1, s2, s3, s4, s5, s6, s7, s8, s9⟩ := hS; go_simp; (try rfl)⟩) ?_
          simp only [List.set_cons_zero, List.set_cons_succ]
          refine heldTake 9 60 rfl rfl (by kernel_rfl) (by kernel_rfl) (by kernel_rfl) (fun _ _ _ h => h) HS6'.out (.inl ⟨by rfl, by intro w' hS; obtain ⟨s1, s2, s3, s4, s5, s6, s7, s8, s9⟩ := hS; go_simp; (try rfl)⟩) ?_
          simp only [List.set_cons_zero, List.set_cons_succ]
          refine heldTake 10 61 rfl rfl (by kernel_rfl) (by kernel_rfl) (by kernel_rfl) (fun _ _ _ h => h) HS6'.out (.inl ⟨by rfl, by intro w' hS; obtain ⟨s1, s2, s3, s4, s5, s6, s7, s8, s9⟩ := hS; go_simp; (try rfl)⟩) ?_
          simp only [List.set_cons_zero, List.set_cons_succ]
          refine heldTake 11 62 rfl rfl (by kernel_rfl) (by kernel_rfl) (by kernel_rfl) (fun _ _ _ h => h) HS6'.out (.inl ⟨by rfl, by intro w' hS; obtain ⟨s1, s2, s3, s4, s5, s6, s7, s8, s9⟩ := hS; go_simp; (try rfl)⟩) ?_
          simp only [List.set_cons_zero, List.set_cons_succ]
          refine heldTake 12 63 rfl rfl (by kernel_rfl) (by kernel_rfl) (by kernel_rfl) (fun _ _ _ h => h) HS6'.out (.inl ⟨by rfl, by intro w' hS; obtain ⟨s1, s2, s3, s4, s5, s6, s7, s8, s9⟩ := hS; go_simp; (try rfl)⟩) ?_
          simp only [List.set_cons_zero, List.set_cons_succ]
          refine heldTake 13 64 rfl rfl (by kernel_rfl) (by kernel_rfl) (by kernel_rfl) (fun _ _ _ h => h) HS6'.out (.inl ⟨by rfl, by intro w' hS; obtain ⟨s1, s2, s3, s4, s5, s6, s7, s8, s9⟩ := hS; go_simp; (try rfl)⟩) ?_
          simp only [List.set_cons_zero, List.set_cons_succ]
          refine heldTake 14 65 rfl rfl (by kernel_rfl) (by kernel_rfl) (by kernel_rfl) (fun _ _ _ h => h) HS6'.out (.inl ⟨by rfl, by intro w' hS; obtain ⟨s1, s2, s3, s4, s5, s6, s7, s8, s9⟩ := hS; go_simp; (try rfl)⟩) ?_
          simp only [List.set_cons_zero, List.set_cons_succ]
          refine heldTake 15 66 rfl rfl (by kernel_rfl) (by kernel_rfl) (by kernel_rfl) (fun _ _ _ h => h) HS6'.out (.inl ⟨by rfl, by intro w' hS; obtain ⟨s1, s2, s3, s4, s5, s6, s7, s8, s9⟩ := hS; go_simp; (try rfl)⟩) ?_
          simp only [List.set_cons_zero, List.set_cons_succ]
          refine heldTake 16 67 rfl rfl (by kernel_rfl) (by kernel_rfl) (by kernel_rfl) (fun _ _ _ h => h) HS6'.out (.inl ⟨by rfl, by intro w' hS; obtain ⟨s1, s2, s3, s4, s5, s6, s7, s8, s9⟩ := hS; go_simp; (try rfl)⟩) ?_
          simp only [List.set_cons_zero, List.set_cons_succ]
          refine heldTake 17 68 rfl rfl (by kernel_rfl) (by kernel_rfl) (by kernel_rfl) (fun _ _ _ h => h) HS6'.out (.inl ⟨by rfl, by intro w' hS; obtain ⟨s1, s2, s3, s4, s5, s6, s7, s8, s9⟩ := hS; go_simp; (try rfl)⟩) ?_
          simp only [List.set_cons_zero, List.set_cons_succ]
          refine heldTake 18 69 rfl rfl (by kernel_rfl) (by kernel_rfl) (by kernel_rfl) (fun _ _ _ h => h) HS6'.out (.inl ⟨by rfl, by intro w' hS; obtain ⟨s1, s2, s3, s4, s5, s6, s7, s8, s9⟩ := hS; go_simp; (try rfl)⟩) ?_
          simp only [List.set_cons_zero, List.set_cons_succ]
          refine heldTake 19 70 rfl rfl (by kernel_rfl) (by kernel_rfl) (by kernel_rfl) (fun _ _ _ h => h) HS6'.out (.inl ⟨by rfl, by intro w' hS; obtain ⟨s1, s2, s3, s4, s5, s6, s7, s8, s9⟩ := hS; go_simp; (try rfl)⟩) ?_
          simp only [List.set_cons_zero, List.set_cons_succ]
          refine heldTake 20 71 rfl rfl (by kernel_rfl) (by kernel_rfl) (by kernel_rfl) (fun _ _ _ h => h) HS6'.out (.inl ⟨by rfl, by intro w' hS; obtain ⟨s1, s2, s3, s4, s5, s6, s7, s8, s9⟩ := hS; go_simp; (try rfl)⟩) ?_
          simp only [List.set_cons_zero, List.set_cons_succ]
          refine heldTake 21 72 rfl rfl (by kernel_rfl) (by kernel_rfl) (by kernel_rfl) (fun _ _ _ h => h) HS6'.out (.inl ⟨by rfl, by intro w' hS; obtain ⟨s1, s2, s3, s4, s5, s6, s7, s8, s9⟩ := hS; go_simp; (try rfl)⟩) ?_
          simp only [List.set_cons_zero, List.set_cons_succ]
          refine heldTake 22 73 rfl rfl (by kernel_rfl) (by kernel_rfl) (by kernel_rfl) (fun _ _ _ h => h) HS6'.out (.inl ⟨by rfl, by intro w' hS; obtain ⟨s1, s2, s3, s4, s5, s6, s7, s8, s9⟩ := hS; go_simp; (try rfl)⟩) ?_
          simp only [List.set_cons_zero, List.set_cons_succ]
          refine heldTake 23 74 rfl rfl (by kernel_rfl) (by kernel_rfl) (by kernel_rfl) (fun _ _ _ h => h) HS6'.out (.inl ⟨by rfl, by intro w' hS; obtain ⟨s1, s2, s3, s4, s5, s6, s7, s8, s9⟩ := hS; go_simp; (try rfl)⟩) ?_
          simp only [List.set_cons_zero, List.set_cons_succ]
          refine heldTake 24 75 rfl rfl (by kernel_rfl) (by kernel_rfl) (by kernel_rfl) (fun _ _ _ h => h) HS6'.out (.inl ⟨by rfl, by intro w' hS; obtain ⟨s1, s2, s3, s4, s5, s6, s7, s8, s9⟩ := hS; go_simp; (try rfl)⟩) ?_
          simp only [List.set_cons_zero, List.set_cons_succ]
          refine heldTake 25 76 rfl rfl (by kernel_rfl) (by kernel_rfl) (by kernel_rfl) (fun _ _ _ h => h) HS6'.out (.inl ⟨by rfl, by intro w' hS; obtain ⟨s1, s2, s3, s4, s5, s6, s7, s8, s9⟩ := hS; go_simp; (try rfl)⟩) ?_
          simp only [List.set_cons_zero, List.set_cons_succ]
          refine heldTake 26 77 rfl rfl (by kernel_rfl) (by kernel_rfl) (by kernel_rfl) (fun _ _ _ h => h) HS6'.out (.inl ⟨by rfl, by intro w' hS; obtain ⟨s1, s2, s3, s4, s5, s6, s7, s8, s9⟩ := hS; go_simp; (try rfl)⟩) ?_
          simp only [List.set_cons_zero, List.set_cons_succ]
          refine heldTake 27 78 rfl rfl (by kernel_rfl) (by kernel_rfl) (by kernel_rfl) (fun _ _ _ h => h) HS6'.out (.inl ⟨by rfl, by intro w' hS; obtain ⟨s1, s2, s3, s4, s5, s6, s7, s8, s9⟩ := hS; go_simp; (try rfl)⟩) ?_
          simp only [List.set_cons_zero, List.set_cons_succ]
          refine heldTake 28 79 rfl rfl (by kernel_rfl) (by kernel_rfl) (by kernel_rfl) (fun _ _ _ h => h) HS6'.out (.inl ⟨by rfl, by intro w' hS; obtain ⟨s1, s2, s3, s4, s5, s6, s7, s8, s9⟩ := hS; go_simp; (try rfl)⟩) ?_
          simp only [List.set_cons_zero, List.set_cons_succ]
          refine heldTake 29 80 rfl rfl (by kernel_rfl) (by kernel_rfl) (by kernel_rfl) (fun _ _ _ h => h) HS6'.out (.inl ⟨by rfl, by intro w' hS; obtain ⟨s1, s2, s3, s4, s5, s6, s7, s8, s9⟩ := hS; go_simp; (try rfl)⟩) ?_
          simp only [List.set_cons_zero, List.set_cons_succ]
          refine heldTake 30 81 rfl rfl (by kernel_rfl) (by kernel_rfl) (by kernel_rfl) (fun _ _ _ h => h) HS6'.out (yieldsIf_load_mid (by rfl) 56 (.tmp 80) rfl (w1.heap.size + 1) 3 rfl (G.d.map bv) _ (fun _ h => h.g3) Try.underlying56 rfl (by rw [List.length_map, A6.out]; exact infoId)) ?_
          simp only [List.set_cons_zero, List.set_cons_succ]
          refine heldTake 31 82 rfl rfl (by kernel_rfl) (by kernel_rfl) (by kernel_rfl) (fun _ _ _ h => h) HS6'.out (.inl ⟨by rfl, by intro w' hS; obtain ⟨s1, s2, s3, s4, s5, s6, s7, s8, s9⟩ := hS; go_simp; (try rfl)⟩) ?_
          simp only [List.set_cons_zero, List.set_cons_succ]
          refine heldTake 32 83 rfl rfl (by kernel_rfl) (by kernel_rfl) (by kernel_rfl) (fun _ _ _ h => h) HS6'.out (.inl ⟨by rfl, by intro w' hS; obtain ⟨s1, s2, s3, s4, s5, s6, s7, s8, s9⟩ := hS; go_simp; (try rfl)⟩) ?_
          simp only [List.set_cons_zero, List.set_cons_succ]
          refine heldTake 33 84 rfl rfl (by kernel_rfl) (by kernel_rfl) (by kernel_rfl) (fun _ _ _ h => h) HS6'.out (.inl ⟨by rfl, by intro w' hS; obtain ⟨s1, s2, s3, s4, s5, s6, s7, s8, s9⟩ := hS; go_simp; (try rfl)⟩) ?_
          simp only [List.set_cons_zero, List.set_cons_succ]
          refine heldTake 34 85 rfl rfl (by kernel_rfl) (by kernel_rfl) (by kernel_rfl) (fun _ _ _ h => h) HS6'.out (.inl ⟨by rfl, by intro w' hS; obtain ⟨s1, s2, s3, s4, s5, s6, s7, s8, s9⟩ := hS; go_simp; (try rfl)⟩) ?_
          simp only [List.set_cons_zero, List.set_cons_succ]
          refine heldTake 35 86 rfl rfl (by kernel_rfl) (by kernel_rfl) (by kernel_rfl) (fun _ _ _ h => h) HS6'.out (.inl ⟨by rfl, by intro w' hS; obtain ⟨s1, s2, s3, s4, s5, s6, s7, s8, s9⟩ := hS; go_simp; (try rfl)⟩) ?_
          simp only [List.set_cons_zero, List.set_cons_succ]
          refine heldTake 36 87 rfl rfl (by kernel_rfl) (by kernel_rfl) (by kernel_rfl) (fun _ _ _ h => h) HS6'.out (.inl ⟨by rfl, by intro w' hS; obtain ⟨s1, s2, s3, s4, s5, s6, s7, s8, s9⟩ := hS; go_simp; (try rfl)⟩) ?_
          simp only [List.set_cons_zero, List.set_cons_succ]
          refine heldTake 37 88 rfl rfl (by kernel_rfl) (by kernel_rfl) (by kernel_rfl) (fun _ _ _ h => h) HS6'.out (.inl ⟨by rfl, by intro w' hS; obtain ⟨s1, s2, s3, s4, s5, s6, s7, s8, s9⟩ := hS; go_simp; (try rfl)⟩) ?_
          simp only [List.set_cons_zero, List.set_cons_succ]
          refine heldTake 38 89 rfl rfl (by kernel_rfl) (by kernel_rfl) (by kernel_rfl) (fun _ _ _ h => h) HS6'.out (.inl ⟨by rfl, by intro w' hS; obtain ⟨s1, s2, s3, s4, s5, s6, s7, s8, s9⟩ := hS; go_simp; (try rfl)⟩) ?_
          simp only [List.set_cons_zero, List.set_cons_succ]
          refine heldTake 39 90 rfl rfl (by kernel_rfl) (by kernel_rfl) (by kernel_rfl) (fun _ _ _ h => h) HS6'.out (yieldsIf_load_mid (by rfl) 56 (.tmp 89) rfl wb (wo + j * 37 + 3) rfl (G.d.map bv) _ (fun _ h => h.a3) Try.underlying56 rfl (by rw [List.length_map, A6.out]; exact infoId)) ?_
          simp only [List.set_cons_zero, List.set_cons_succ]
          have heq := run_eql_id G.d G.d A6.out A6.out
          rw [beq_self_eq_true] at heq
          refine heldTake 40 91 rfl rfl (by kernel_rfl) (by kernel_rfl) (by kernel_rfl) (fun _ _ _ h => h) HS6'.out (.inl ⟨by rfl, by intro w' hS; obtain ⟨s1, s2, s3, s4, s5, s6, s7, s8, s9⟩ := hS; go_simp; (try rfl)⟩) ?_
          simp only [List.set_cons_zero, List.set_cons_succ]
          refine heldTake 41 92 rfl rfl (by kernel_rfl) (by kernel_rfl) (by kernel_rfl) (fun _ _ _ h => h) HS6'.out (.inl ⟨by rfl, by intro w' hS; obtain ⟨s1, s2, s3, s4, s5, s6, s7, s8, s9⟩ := hS; go_simp; (try rfl)⟩) ?_
          simp only [List.set_cons_zero, List.set_cons_succ]
          refine heldTake 42 93 rfl rfl (by kernel_rfl) (by kernel_rfl) (by kernel_rfl) (fun _ _ _ h => h) HS6'.out (.inl ⟨by rfl, by intro w' hS; obtain ⟨s1, s2, s3, s4, s5, s6, s7, s8, s9⟩ := hS; go_simp; (try rfl)⟩) ?_
          simp only [List.set_cons_zero, List.set_cons_succ]
          refine heldTake 43 94 rfl rfl (by kernel_rfl) (by kernel_rfl) (by kernel_rfl) (fun _ _ _ h => h) HS6'.out (.inl ⟨by rfl, by intro w' hS; obtain ⟨s1, s2, s3, s4, s5, s6, s7, s8, s9⟩ := hS; go_simp; (try rfl)⟩) ?_
          simp only [List.set_cons_zero, List.set_cons_succ]
          refine heldTake 44 95 rfl rfl (by kernel_rfl) (by kernel_rfl) (by kernel_rfl) (fun _ _ _ h => h) HS6'.out (.inl ⟨by rfl, by intro w' hS; obtain ⟨s1, s2, s3, s4, s5, s6, s7, s8, s9⟩ := hS; go_simp; (try rfl)⟩) ?_
          simp only [List.set_cons_zero, List.set_cons_succ]
          refine heldTake 45 96 rfl rfl (by kernel_rfl) (by kernel_rfl) (by kernel_rfl) (fun _ _ _ h => h) HS6'.out (.inl ⟨by rfl, by intro w' hS; obtain ⟨s1, s2, s3, s4, s5, s6, s7, s8, s9⟩ := hS; go_simp; (try rfl)⟩) ?_
          simp only [List.set_cons_zero, List.set_cons_succ]
          refine heldTake 46 97 rfl rfl (by kernel_rfl) (by kernel_rfl) (by kernel_rfl) (fun _ _ _ h => h) HS6'.out (.inl ⟨by rfl, by intro w' hS; obtain ⟨s1, s2, s3, s4, s5, s6, s7, s8, s9⟩ := hS; go_simp; (try rfl)⟩) ?_
          simp only [List.set_cons_zero, List.set_cons_succ]
          refine heldTake 47 98 rfl rfl (by kernel_rfl) (by kernel_rfl) (by kernel_rfl) (fun _ _ _ h => h) HS6'.out (.inl ⟨by rfl, by intro w' hS; obtain ⟨s1, s2, s3, s4, s5, s6, s7, s8, s9⟩ := hS; go_simp; (try rfl)⟩) ?_
          simp only [List.set_cons_zero, List.set_cons_succ]
          refine heldTake 48 99 rfl rfl (by kernel_rfl) (by kernel_rfl) (by kernel_rfl) (fun _ _ _ h => h) HS6'.out (.inl ⟨by rfl, by intro w' hS; obtain ⟨s1, s2, s3, s4, s5, s6, s7, s8, s9⟩ := hS; go_simp; (try rfl)⟩) ?_
          simp only [List.set_cons_zero, List.set_cons_succ]
          refine heldTake 49 100 rfl rfl (by kernel_rfl) (by kernel_rfl) (by kernel_rfl) (fun _ _ _ h => h) HS6'.out (.inl ⟨by rfl, by intro w' hS; obtain ⟨s1, s2, s3, s4, s5, s6, s7, s8, s9⟩ := hS; go_simp; (try rfl)⟩) ?_
          simp only [List.set_cons_zero, List.set_cons_succ]
          refine heldTake 50 101 rfl rfl (by kernel_rfl) (by kernel_rfl) (by kernel_rfl) (fun _ _ _ h => h) HS6'.out (.inl ⟨by rfl, by intro w' hS; obtain ⟨s1, s2, s3, s4, s5, s6, s7, s8, s9⟩ := hS; go_simp; (try rfl)⟩) ?_
          simp only [List.set_cons_zero, List.set_cons_succ]
          refine heldTake 51 102 rfl rfl (by kernel_rfl) (by kernel_rfl) (by kernel_rfl) (fun _ _ _ h => h) HS6'.out (.inl ⟨by rfl, by intro w' hS; obtain ⟨s1, s2, s3, s4, s5, s6, s7, s8, s9⟩ := hS; go_simp; (try rfl)⟩) ?_
          simp only [List.set_cons_zero, List.set_cons_succ]
          refine heldTake 52 103 rfl rfl (by kernel_rfl) (by kernel_rfl) (by kernel_rfl) (fun _ _ _ h => h) HS6'.out (.inl ⟨by rfl, by intro w' hS; obtain ⟨s1, s2, s3, s4, s5, s6, s7, s8, s9⟩ := hS; go_simp; (try rfl)⟩) ?_
          simp only [List.set_cons_zero, List.set_cons_succ]
          refine heldTake 53 104 rfl rfl (by kernel_rfl) (by kernel_rfl) (by kernel_rfl) (fun _ _ _ h => h) HS6'.out (.inl ⟨by rfl, by intro w' hS; obtain ⟨s1, s2, s3, s4, s5, s6, s7, s8, s9⟩ := hS; go_simp; (try rfl)⟩) ?_
          simp only [List.set_cons_zero, List.set_cons_succ]
          clear heq
          refine heldOne 54 (by kernel_rfl) rfl (by rfl) ?_
          go_simp
          refine (r1Bytes G.t G.t _ _ _ _ _ _ W6.drew (HBT6.out.below (w' := W6.drew) (Below.refl _ _).drew (Nat.le_refl _)) ((A5.out.mono (show B ≤ W6.heap.size by omega)).below (w' := W6.drew) (Below.refl _ _).drew (Nat.le_refl _))).mono ?_
          rintro e w7 ⟨rfl, hb7⟩
          simp only [decide_true]
          have hs7 : W6.heap.size ≤ w7.heap.size := hb7.size
          have hbb7 : Below W6.heap.size W6 w7 := (Below.refl _ W6).drew.trans hb7
          have HEY7 := Lib.hid (HEY6.out.below hbb7)
          have HTW7 := Lib.hid (HTW6.out.trans (Two.ofBut (But.ofBelow (by omega) hbb7)))
          have HPR7 := Lib.hid ((hbb7.block p (by omega)).trans HPR6.out)
          have HS7 := Lib.hid (HS6.out.keep hbb7 (by omega) (by omega) (by omega))
          refine ⟨HS7.out, ?_⟩
          clear hb7 hbb7
          refine heldTake 55 106 rfl rfl (by kernel_rfl) (by kernel_rfl) (by kernel_rfl) (fun _ _ _ h => h) HS7.out (.inl ⟨by rfl, by intro w' hS; obtain ⟨s1, s2, s3, s4, s5, s6, s7, s8, s9⟩ := hS; go_simp; (try rfl)⟩) ?_
          simp only [List.set_cons_zero, List.set_cons_succ]
          refine heldTake 56 107 rfl rfl (by kernel_rfl) (by kernel_rfl) (by kernel_rfl) (fun _ _ _ h => h) HS7.out (.inl ⟨by rfl, by intro w' hS; obtain ⟨s1, s2, s3, s4, s5, s6, s7, s8, s9⟩ := hS; go_simp; (try rfl)⟩) ?_
          simp only [List.set_cons_zero, List.set_cons_succ]
          refine heldTake 57 108 rfl rfl (by kernel_rfl) (by kernel_rfl) (by kernel_rfl) (fun _ _ _ h => h) HS7.out (.inl ⟨by rfl, by intro w' hS; obtain ⟨s1, s2, s3, s4, s5, s6, s7, s8, s9⟩ := hS; go_simp; (try rfl)⟩) ?_
          simp only [List.set_cons_zero, List.set_cons_succ]
          refine heldTake 59 110 rfl rfl (by kernel_rfl) (by kernel_rfl) (by kernel_rfl) (fun _ _ _ h => h) HS7.out (.inl ⟨by rfl, by intro w' hS; obtain ⟨s1, s2, s3, s4, s5, s6, s7, s8, s9⟩ := hS; go_simp; (try rfl)⟩) ?_
          simp only [List.set_cons_zero, List.set_cons_succ]
          refine heldTake 60 111 rfl rfl (by kernel_rfl) (by kernel_rfl) (by kernel_rfl) (fun _ _ _ h => h) HS7.out (.inl ⟨by rfl, by intro w' hS; obtain ⟨s1, s2, s3, s4, s5, s6, s7, s8, s9⟩ := hS; go_simp; (try rfl)⟩) ?_
          simp only [List.set_cons_zero, List.set_cons_succ]
          refine heldTake 61 112 rfl rfl (by kernel_rfl) (by kernel_rfl) (by kernel_rfl) (fun _ _ _ h => h) HS7.out (.inl ⟨by rfl, by intro w' hS; obtain ⟨s1, s2, s3, s4, s5, s6, s7, s8, s9⟩ := hS; go_simp; (try rfl)⟩) ?_
          simp only [List.set_cons_zero, List.set_cons_succ]
          refine heldTake 62 113 rfl rfl (by kernel_rfl) (by kernel_rfl) (by kernel_rfl) (fun _ _ _ h => h) HS7.out (.inl ⟨by rfl, by intro w' hS; obtain ⟨s1, s2, s3, s4, s5, s6, s7, s8, s9⟩ := hS; go_simp; (try rfl)⟩) ?_
          simp only [List.set_cons_zero, List.set_cons_succ]
          refine heldTake 63 114 rfl rfl (by kernel_rfl) (by kernel_rfl) (by kernel_rfl) (fun _ _ _ h => h) HS7.out (.inl ⟨by rfl, by intro w' hS; obtain ⟨s1, s2, s3, s4, s5, s6, s7, s8, s9⟩ := hS; go_simp; (try rfl)⟩) ?_
          simp only [List.set_cons_zero, List.set_cons_succ]
          refine heldTake 64 115 rfl rfl (by kernel_rfl) (by kernel_rfl) (by kernel_rfl) (fun _ _ _ h => h) HS7.out (.inl ⟨by rfl, by intro w' hS; obtain ⟨s1, s2, s3, s4, s5, s6, s7, s8, s9⟩ := hS; go_simp; (try rfl)⟩) ?_
          simp only [List.set_cons_zero, List.set_cons_succ]
          refine heldTake 65 116 rfl rfl (by kernel_rfl) (by kernel_rfl) (by kernel_rfl) (fun _ _ _ h => h) HS7.out (.inl ⟨by rfl, by intro w' hS; obtain ⟨s1, s2, s3, s4, s5, s6, s7, s8, s9⟩ := hS; go_simp; (try rfl)⟩) ?_
          simp only [List.set_cons_zero, List.set_cons_succ]
          refine heldTake 66 117 rfl rfl (by kernel_rfl) (by kernel_rfl) (by kernel_rfl) (fun _ _ _ h => h) HS7.out (.inl ⟨by rfl, by intro w' hS; obtain ⟨s1, s2, s3, s4, s5, s6, s7, s8, s9⟩ := hS; go_simp; (try rfl)⟩) ?_
          simp only [List.set_cons_zero, List.set_cons_succ]
          refine heldTake 67 118 rfl rfl (by kernel_rfl) (by kernel_rfl) (by kernel_rfl) (fun _ _ _ h => h) HS7.out (.inl ⟨by rfl, by intro w' hS; obtain ⟨s1, s2, s3, s4, s5, s6, s7, s8, s9⟩ := hS; go_simp; (try rfl)⟩) ?_
          simp only [List.set_cons_zero, List.set_cons_succ]
          refine heldOne 58 (by kernel_rfl) rfl (by rfl) ?_
          go_simp
          refine (eyeLeft q G.left _ HEY7.out).mono ?_
          rintro e w8 ⟨rfl, rfl⟩
          refine ⟨HS7.out, ?_⟩
          refine heldTake 68 119 rfl rfl (by kernel_rfl) (by kernel_rfl) (by kernel_rfl) (fun _ _ _ h => h) HS7.out (.inl ⟨by rfl, by intro w' hS; obtain ⟨s1, s2, s3, s4, s5, s6, s7, s8, s9⟩ := hS; go_simp; (try rfl)⟩) ?_
          simp only [List.set_cons_zero, List.set_cons_succ]
          refine heldTake 69 120 rfl rfl (by kernel_rfl) (by kernel_rfl) (by kernel_rfl) (fun _ _ _ h => h) HS7.out (.inl ⟨by rfl, by intro w' hS; obtain ⟨s1, s2, s3, s4, s5, s6, s7, s8, s9⟩ := hS; go_simp; (try rfl)⟩) ?_
          simp only [List.set_cons_zero, List.set_cons_succ]
          refine heldTake 70 121 rfl rfl (by kernel_rfl) (by kernel_rfl) (by kernel_rfl) (fun _ _ _ h => h) HS7.out (.inl ⟨by rfl, by intro w' hS; obtain ⟨s1, s2, s3, s4, s5, s6, s7, s8, s9⟩ := hS; go_simp; (try rfl)⟩) ?_
          simp only [List.set_cons_zero, List.set_cons_succ]
          refine heldTake 71 122 rfl rfl (by kernel_rfl) (by kernel_rfl) (by kernel_rfl) (fun _ _ _ h => h) HS7.out (.inl ⟨by rfl, by intro w' hS; obtain ⟨s1, s2, s3, s4, s5, s6, s7, s8, s9⟩ := hS; go_simp; (try rfl)⟩) ?_
          simp only [List.set_cons_zero, List.set_cons_succ]
          refine heldOne 72 (by kernel_rfl) rfl (by rfl) ?_
          have p3 := HS7.out.p3
          have f3 : w7.frozen? ⟨p, 3, none⟩ = false := frozen_of_row _ _ _ _ _ HPR7.out
          refine wp_store_cell 4 (.tmp 122) (.tmp 120) rfl p 3 (.bool true) _ rfl rfl rfl infoBool p3 f3 ?_
          refine ⟨HS7.out.set (by omega) (by omega), wpAnyH_done (by kernel_rfl) ?_ _⟩
          have p2 : w7.cell? ⟨p, 2, none⟩ = some (.int .i64 j) := (by rw [cell_of_row _ _ _ _ _ _ HPR7.out]; rfl)
          have f2 : w7.frozen? ⟨p, 2, none⟩ = false := frozen_of_row _ _ _ _ _ HPR7.out
          have hrow8 : ((w7.setCell ⟨p, 3, none⟩ (.bool true)).setCell ⟨p, 2, none⟩ (.int .i64 ((j : Int) + 1))).heap[p]? = some (.cells (heldRow (some ⟨b, o, none⟩) ms.length lc (some ⟨wb, wo, none⟩) mg.length wc (j + 1)) 65 (0, 0)) := by
            have h8 := heap_setCell_same w7 p 3 _ _ (.bool true) HPR7.out
            have h9 := heap_setCell_same _ p 2 _ _ (.int .i64 ((j : Int) + 1)) h8
            rwa [heldRow_turn] at h9
          have hey8 : EyeAt ((w7.setCell ⟨p, 3, none⟩ (.bool true)).setCell ⟨p, 2, none⟩ (.int .i64 ((j : Int) + 1))) q G.left :=
            (HEY7.out.setOther hpq p3 (fun c e => by cases e) _).setOther hpq ((World.cell?_setCell_other _ _ _ _ (by intro e2; injection e2 with e3 e4; omega)).trans p2) (fun c e => by cases e) _
          have HIN := Lib.hid (HI.out.turn HDR.out hlt HGT.out HG0.out ((HTW7.out.trans (Two.set _ _)).trans (Two.set _ _)) hrow8 hey8)
          clear hrow8 hey8
          go_wp2
          go_roundw
          case rel => exact ⟨j + 1, G.left, by go_num, HIN.out⟩
          case measure => simp [intOf]; omega
    · have hj : j = ms.length := by omega
      subst hj
      have hrun := HI.out.run
      have hlj := HI.out.lj
      rw [List.drop_length, List.map_nil] at hrun
      simp only [runF, List.append_nil] at hrun
      obtain ⟨h1, h2⟩ := hrun
      have hmj : mg.length = ms.length := by
        have := congrArg List.length h1
        simp at this
        omega
      have hX0 : X = (0, l') := by rw [HX.out, h2]
      have HEND := Lib.hid (show HeldEnd q p la ms.length lc wa mg.length wc X.1 X.2 w wr (.returned (.tuple #[])) from ⟨HI.out.two, by have h9 := HPR.out; rwa [← hmj] at h9 ⊢, fun h9 => absurd (by rw [hX0]) h9, fun _ => ⟨rfl, by rw [hX0]; exact HI.out.eye.len⟩⟩)
      clear h1 h2 hmj hX0 hlj
      go_wp2
      go_end0
      exact HEND.out
end Go.Proofs.Ytogcnfhmcpkdcaa
