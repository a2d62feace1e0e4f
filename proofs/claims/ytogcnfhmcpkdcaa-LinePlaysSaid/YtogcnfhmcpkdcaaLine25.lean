/-
  Contracts of the reference's Add (all its ways) and Join to a line.
-/
import Derived.Test.YtogcnfhmcpkdcaaLine23
import Derived.Test.YtogcnfhmcpkdcaaLine24
namespace Go.Proofs.Ytogcnfhmcpkdcaa
open Go.RowKit
set_option linter.unusedVariables false
set_option linter.unusedSimpArgs false

theorem r17Add (x : PLine) (hg : x.Good) (a : Option Addr) (c : Nat) (ms : List MItem) (t : Int) (ba : Option Addr) (bc : Nat) (b : List UInt8) (w : World) (h : RAt w w.heap.size x a c ms) (hbs : BsAt w w.heap.size ba b.length bc b) :
    Calls Try.prog 53 #[rv x a ms.length c, .agg #[.int .i64 t, .slice ba b.length bc]] w (RAddTo x a ms ⟨t, ba, b.length, bc, b⟩ w) := by
  cases hr : rightI (t, b) with
  | false => exact r17Add_wrong x hg a c ms t ba bc b w h hr
  | true =>
    cases hf : fitsB x ((ms.length : Int) + 1) with
    | false => exact r17Add_full x hg a c ms t ba bc b w h hr hf
    | true => exact r17Add_ok x hg a c ms t ba bc b w h hr hf hbs

/-- a struct that lies in a block, and two values more, are handed back -/
theorem results_row_tmp2 {P : Program} {fn : Func} {p u v : Tmp} {ty : TypeId} (h : fn.results = #[.cell p ty, .tmp u, .tmp v]) (tmps : Array Value) (w : World) (g : Nat) (t : TypeId) (cs : Array Value) (fr : Nat × Nat) (d : TypeDesc)
    (hp : tmps.getD p undef = .pointer (some ⟨g, 0, none⟩)) (hg : w.heap[g]? = some (.cells cs t fr)) (hu : P.underlying ty = some d) (hd : (match d with | .struct _ | .array _ _ => true | _ => false) = true) (hi : (P.info? ty).map (·.size) = some cs.size) :
    (results fn tmps).run P w = .ok (.tuple #[.agg cs, tmps.getD u undef, tmps.getD v undef]) w := by
  have hp' : tmps[p]?.getD undef = .pointer (some ⟨g, 0, none⟩) := by simpa using hp
  simp [results, h, hp', asAddr, run_loadVar_row w g t ty cs fr d hg hu (by cases d <;> simp_all) hi]

/-- what the reference's Join comes to -/
def RJoinTo (E : PLine × Int × Bool) (a : Option Addr) (ms js : List MItem) (w : World) (e : Ending) (w' : World) : Prop := ∃ a' c' ms', e = .returned (.tuple #[rv E.1 a' ms'.length c', .int .i64 E.2.1, .bool E.2.2]) ∧ RAt w' w'.heap.size E.1 a' c' ms' ∧ Below w.heap.size w w' ∧ Fresh w w' a a' ∧ ∀ m ∈ ms', m ∈ ms ∨ m ∈ js

/-- the boxes of Join: the line, and the line that is told -/
structure JB (w : World) (x : PLine) (a : Option Addr) (n c : Nat) (W : World) : Prop where
  bel : Below w.heap.size w W
  sz : w.heap.size + 2 ≤ W.heap.size
  r0 : W.heap[w.heap.size]? = some (.cells #[.int .i64 x.base, .int .i64 x.term, .slice a n c] 88 (0, 0))
  r1 : W.heap[w.heap.size + 1]? = some (.cells #[.int .i64 0, .int .i64 0, .slice none 0 0] 88 (0, 0))
theorem JB.next {w : World} {x : PLine} {a : Option Addr} {n c : Nat} {W W' : World} (h : JB w x a n c W) (hb : Below W.heap.size W W') : JB w x a n c W' := by
  have hs := h.sz
  have hs' := hb.size
  exact ⟨h.bel.trans (hb.mono h.bel.size), by omega, (hb.block _ (by omega)).trans h.r0, (hb.block _ (by omega)).trans h.r1⟩
theorem JB.cells {w : World} {x : PLine} {a : Option Addr} {n c : Nat} {W : World} (h : JB w x a n c W) : W.cell? ⟨w.heap.size, 0, none⟩ = some (.int .i64 x.base) ∧ W.cell? ⟨w.heap.size, 1, none⟩ = some (.int .i64 x.term) ∧ W.cell? ⟨w.heap.size, 2, none⟩ = some (.slice a n c) :=
  ⟨cell_of_row W w.heap.size 0 _ _ _ h.r0, cell_of_row W w.heap.size 1 _ _ _ h.r0, cell_of_row W w.heap.size 2 _ _ _ h.r0⟩
/-- told as it was -/
theorem JB.same {w : World} {x : PLine} {a : Option Addr} {c : Nat} {ms : List MItem} {W W5 : World} (hj : JB w x a ms.length c W) (h : RAt w w.heap.size x a c ms) (hb : Below (w.heap.size + 1) W W5) (js : List MItem) (E : PLine × Int × Bool) (i : Int) (o : Bool) (hE : E = (x, i, o)) :
    RJoinTo E a ms js w (.returned (.tuple #[.agg #[.int .i64 x.base, .int .i64 x.term, .slice a ms.length c], .int .i64 i, .bool o])) W5 := by
  subst hE
  have hb' := hj.bel.trans (hb.mono (show w.heap.size ≤ w.heap.size + 1 by omega))
  exact ⟨a, c, ms, rfl, (h.below hb' (Nat.le_refl _)).mono hb'.size, hb', .inl rfl, fun m hm => .inl hm⟩

/-- what Join's drawn regions read -/
structure RJS (g : Nat) (x : PLine) (a : Option Addr) (n c : Nat) (b q : Nat) (t : Int) (W : World) : Prop where
  r0 : W.heap[g]? = some (.cells #[.int .i64 x.base, .int .i64 x.term, .slice a n c] 88 (0, 0))
  g0 : W.cell? ⟨g, 0, none⟩ = some (.int .i64 x.base)
  g2 : W.cell? ⟨g, 2, none⟩ = some (.slice a n c)
  k0 : W.cell? ⟨b, q, none⟩ = some (.int .i64 t)
theorem RJS.keep {g : Nat} {x : PLine} {a : Option Addr} {n c b q : Nat} {t : Int} {W W' : World} (h : RJS g x a n c b q t W) {N : Nat} (hb : Below N W W') (h1 : g < N) (h2 : b < N) : RJS g x a n c b q t W' :=
  ⟨(hb.block _ h1).trans h.r0, (hb.cell (p := ⟨g, _, none⟩) h1).trans h.g0, (hb.cell (p := ⟨g, _, none⟩) h1).trans h.g2, (hb.cell (p := ⟨b, _, none⟩) h2).trans h.k0⟩

theorem anyBad_take_succ {js : List MItem} {k : Nat} {m : MItem} (hm : js[k]? = some m) (h : anyBad (js.take k) = false) (hr : rightI m.it = true) : anyBad (js.take (k + 1)) = false := by
  have hl : k < js.length := (List.getElem?_eq_some_iff.1 hm).1
  have e : js[k] = m := by simpa [List.getElem?_eq_getElem hl] using hm
  rw [List.take_succ_eq_append_getElem hl, e]
  unfold anyBad at h ⊢
  rw [List.any_append, h]
  simp [hr]
theorem anyBad_mem {js : List MItem} {m : MItem} (hm : m ∈ js) (hr : rightI m.it = false) : anyBad js = true := by
  unfold anyBad
  exact List.any_eq_true.2 ⟨m, hm, by simp [hr]⟩

set_option maxRecDepth 100000 in
set_option maxHeartbeats 2000000 in
theorem r17Join (x : PLine) (hg : x.Good) (a : Option Addr) (c : Nat) (ms : List MItem) (prev term : Int) (js : List MItem) (ja : Option Addr) (jc : Nat) (w : World) (h : RAt w w.heap.size x a c ms) (hj : ItemsAt w w.heap.size ja js.length jc js) (hjn : js.length ≤ 100000) :
    Calls Try.prog 54 #[rv x a ms.length c, .int .i64 prev, .int .i64 term, .slice ja js.length jc] w (RJoinTo (x.join prev term (js.map MItem.it)) a ms js w) := by
  obtain ⟨i0, hi, hz0, hz1, hz2⟩ := info_parts infoItem3
  have hl := h.len
  have hb0 := hg.b0
  have hb1 := hg.b1
  have h1 := hg.n1
  have h2 := hg.n2
  have hn4 : (ms.length : Int) ≤ 4096 := by omega
  have H := Lib.hid h
  have HJ := Lib.hid hj
  have hlastd : x.last = x.base + (x.l.length : Int) := rfl
  obtain ⟨W1, hW1⟩ : ∃ W1, W1 = (w.alloc (.cells #[.int .i64 x.base, .int .i64 x.term, .slice a ms.length c] 88)).alloc (.cells #[.int .i64 0, .int .i64 0, .slice none 0 0] 88) := ⟨_, rfl⟩
  have HW1 := Lib.hid hW1
  have HJ1 := Lib.hid (show JB w x a ms.length c W1 from by
    rw [hW1]
    refine ⟨((Below.refl _ w).alloc (Nat.le_refl _) _).alloc (by simp) _, by simp, (((Below.refl _ (w.alloc (.cells #[.int .i64 x.base, .int .i64 x.term, .slice a ms.length c] 88))).alloc (Nat.le_refl _) _).block _ (by simp)).trans (heap_alloc_new w _), ?_⟩
    have h9 := heap_alloc_new (w.alloc (.cells #[.int .i64 x.base, .int .i64 x.term, .slice a ms.length c] 88)) (.cells #[.int .i64 0, .int .i64 0, .slice none 0 0] 88)
    simpa using h9)
  clear hW1
  obtain ⟨E, hE⟩ : ∃ E, E = x.join prev term (js.map MItem.it) := ⟨_, rfl⟩
  rw [← hE]
  obtain ⟨L, hL⟩ : ∃ L, x.last = L := ⟨_, rfl⟩
  have HL := Lib.hid hL
  by_cases hp0 : prev < 0
  · have hE2 : E = (x, 0, false) := by rw [hE, PLine.join, if_pos (.inl hp0)]
    have HE2 := Lib.hid hE2
    have t1 : decide (prev < 0) = true := by simpa using hp0
    clear hE h hj hl h1 h2 hlastd hE2 hL
    go_enter Try.func54, Try.ntmps54
    go_wp2_with fail
    have hbF := ((Below.refl _ w).alloc (Nat.le_refl w.heap.size) (.cells #[.int .i64 x.base, .int .i64 x.term, .slice a ms.length c] 88)).alloc (by simp) (.cells #[.int .i64 x.base, .int .i64 x.term, .slice a ms.length c] 88)
    have hrF : ((w.alloc (.cells #[.int .i64 x.base, .int .i64 x.term, .slice a ms.length c] 88)).alloc (.cells #[.int .i64 x.base, .int .i64 x.term, .slice a ms.length c] 88)).heap[w.heap.size + 1]? = some (.cells #[.int .i64 x.base, .int .i64 x.term, .slice a ms.length c] 88 (0, 0)) := by
      have h9 := heap_alloc_new (w.alloc (.cells #[.int .i64 x.base, .int .i64 x.term, .slice a ms.length c] 88)) (.cells #[.int .i64 x.base, .int .i64 x.term, .slice a ms.length c] 88)
      simpa using h9
    refine bodyPost_ret (results_row_tmp2 rfl _ _ (w.heap.size + 1) 88 _ (0, 0) _ rfl hrF Try.underlying88 rfl infoRLine) rfl ?_
    unfold RJoinTo
    rw [HE2.out]
    exact ⟨a, c, ms, rfl, (H.out.below hbF (Nat.le_refl _)).mono hbF.size, hbF, .inl rfl, fun m hm => .inl hm⟩
  · have t1 : decide (prev < 0) = false := by simpa using hp0
    by_cases hlp : L < prev
    · have t2 : decide (L < prev) = true := by simpa using hlp
      have hE2 : E = (x, 0, false) := by rw [hE, PLine.join, if_pos (.inr (.inl (by rw [hL]; exact hlp)))]
      have HE2 := Lib.hid hE2
      clear hE h hj hl h1 h2 hlastd hE2 hL
      have HLEN := Lib.hid H.out.len
      go_enter Try.func54, Try.ntmps54
      go_wp2_with fail
      rw [← HW1.out]
      obtain ⟨d0, d1, d2⟩ := HJ1.out.cells
      refine (r17Last x hg a ms.length c HLEN.out _).mono ?_
      rintro e w2 ⟨rfl, hb2⟩
      rw [HL.out]
      have HJ2 := Lib.hid (HJ1.out.next hb2)
      clear hb2 d0 d1 d2
      obtain ⟨d0, d1, d2⟩ := HJ2.out.cells
      (try (obtain ⟨d0, d1, d2⟩ := HJ2.out.cells))
      go_wp2_with (refine wpList_store_abs rfl 88 (.tmp 8) (.tmp 36) rfl (w.heap.size + 1) #[.int .i64 x.base, .int .i64 x.term, .slice a ms.length c] rfl rfl 88 _ HJ2.out.r1 infoRLine rfl (by simp [Value.oneCell']) ?_; intro W5 hrow5 hoth5 hb5 hs5)
      refine bodyPost_ret (results_row_tmp2 rfl _ _ (w.heap.size + 1) 88 _ (0, 0) _ rfl hrow5 Try.underlying88 rfl infoRLine) rfl ?_
      exact HJ2.out.same H.out hb5 js E 0 false HE2.out
    · have t2 : decide (L < prev) = false := by simp; omega
      by_cases hbp : x.base ≤ prev
      · have t3 : decide (x.base ≤ prev) = true := by simpa using hbp
        obtain ⟨T, hT⟩ : ∃ T, x.tm prev = T := ⟨_, rfl⟩
        have HT := Lib.hid hT
        by_cases htm : T = term
        · skip
          have HEB := Lib.hid (show anyBad js = true → E = (x, 0, false) from fun h9 => by
            rw [hE, PLine.join, if_pos (.inr (.inr (by rw [anyBad_map]; exact h9)))])
          have HE3 := Lib.hid (show anyBad js = false → E = match x.diff (prev + 1) (js.map MItem.it) with
              | none => (x, 0, true)
              | some (i, r) => if fitsB x (i - x.base - 1 + r.length) = true then (⟨x.base, x.term, x.l.take (i - x.base - 1).toNat ++ r⟩, i, true) else (x, 0, false) from fun h9 => by
            rw [hE, PLine.join, if_neg (by rw [anyBad_map, h9, hL]; simp; omega), if_neg (fun h10 => by first | exact hbp h10.1 | exact h10.2 (hT.trans htm))]; rfl)
          have t4 : (T != term) = false := by simpa using htm
          have HLB := Lib.hid (show L = x.base + (ms.length : Int) by omega)
          have hLm : L ≤ 1099511627776 := by omega
          have hpl : prev ≤ L := by omega
          have hp1 : 0 ≤ prev := by omega
          have hLb0 : x.base ≤ L := by omega
          clear hE h hj hl h1 h2 hlastd hL hlp hp0
          have HLEN := Lib.hid H.out.len
          clear hT htm
          go_enter Try.func54, Try.ntmps54
          go_wp2_with fail
          rw [← HW1.out]
          obtain ⟨d0, d1, d2⟩ := HJ1.out.cells
          refine (r17Last x hg a ms.length c HLEN.out _).mono ?_
          rintro e w2 ⟨rfl, hb2⟩
          rw [HL.out]
          have HJ2 := Lib.hid (HJ1.out.next hb2)
          clear hb2 d0 d1 d2
          obtain ⟨d0, d1, d2⟩ := HJ2.out.cells
          go_wp2_with fail
          refine (r17At x hg a c ms prev _ ((H.out.below HJ2.out.bel (Nat.le_refl _)).mono HJ2.out.bel.size)).mono ?_
          rintro e w3 ⟨rfl, hb3⟩
          rw [HT.out]
          have HJ3 := Lib.hid (HJ2.out.next hb3)
          clear hb3 d0 d1 d2
          obtain ⟨d0, d1, d2⟩ := HJ3.out.cells
          go_wp2_with fail
          go_loopw [11] (fun kv wr => ∃ k : Nat, kv = .int .i64 k ∧ k ≤ js.length ∧ anyBad (js.take k) = false ∧ JB w x a ms.length c wr) (fun kv _ => js.length - (intOf kv).toNat)
          case atStart => exact ⟨0, rfl, by omega, rfl, HJ3.out⟩
          case round =>
            obtain ⟨k, rfl, hk, hak, hjk⟩ := hrel
            have HAK := Lib.hid hak
            have HJK := Lib.hid hjk
            clear hak hjk d0 d1 d2
            obtain ⟨d0, d1, d2⟩ := HJK.out.cells
            by_cases hkl : k < js.length
            · obtain ⟨mi, hmi⟩ : ∃ mi, js[k]? = some mi := ⟨_, List.getElem?_eq_getElem hkl⟩
              have hbsk := (HJ.out.bs mi (List.mem_of_getElem? hmi))
              have hmn : mi.n = mi.b.length := hbsk.hlen.symm
              have HMI := Lib.hid hmi
              obtain ⟨b, o, rfl, hb, k0, k1⟩ := HJ.out.cell hmi
              rw [hmn] at k1
              have c0 : wr.cell? ⟨b, o + k * 2, none⟩ = some (.int .i64 mi.t) := (HJK.out.bel.cell (p := ⟨b, o + k * 2, none⟩) hb).trans k0
              have c1 : wr.cell? ⟨b, o + k * 2 + 1, none⟩ = some (.slice mi.a mi.b.length mi.c) := (HJK.out.bel.cell (p := ⟨b, o + (k * 2 + 1), none⟩) hb).trans k1
              obtain ⟨R, hR⟩ : ∃ R, rightI (mi.t, mi.b) = R := ⟨_, rfl⟩
              have HR := Lib.hid hR
              have tk : decide ((k : Int) < (js.length : Int)) = true := by simpa using hkl
              have hk0 : (0 : Int) ≤ (k : Int) := by omega
              have hk1 : (k : Int) < (js.length : Int) := by omega
              clear k0 k1 hmi hbsk hmn hR
              cases R with
              | false =>
                have HE2 := Lib.hid (HEB.out (anyBad_mem (List.mem_of_getElem? HMI.out) HR.out))
                go_wp2_with fail
                refine (r17Right mi.t mi.a mi.c mi.b _).mono ?_
                rintro e w6 ⟨rfl, hb6⟩
                rw [HR.out]
                have HJ6 := Lib.hid (HJK.out.next hb6)
                clear hb6 d0 d1 d2 c0 c1
                obtain ⟨d0, d1, d2⟩ := HJ6.out.cells
                go_wp2_with (refine wpList_store_abs rfl 88 (.tmp 8) (.tmp 49) rfl (w.heap.size + 1) #[.int .i64 x.base, .int .i64 x.term, .slice a ms.length c] rfl rfl 88 _ HJ6.out.r1 infoRLine rfl (by simp [Value.oneCell']) ?_; intro W5 hrow5 hoth5 hb5 hs5)
                (try rw [Exit.noGoto_ret])
                refine bodyPost_ret (results_row_tmp2 rfl _ _ (w.heap.size + 1) 88 _ (0, 0) _ rfl hrow5 Try.underlying88 rfl infoRLine) rfl ?_
                exact HJ6.out.same H.out hb5 js E 0 false HE2.out
              | true =>
                have HAN := Lib.hid (anyBad_take_succ HMI.out HAK.out HR.out)
                go_wp2_with fail
                refine (r17Right mi.t mi.a mi.c mi.b _).mono ?_
                rintro e w6 ⟨rfl, hb6⟩
                rw [HR.out]
                have HJ6 := Lib.hid (HJK.out.next hb6)
                clear hb6 d0 d1 d2 c0 c1
                go_wp2
                go_roundw
                case rel => exact ⟨k + 1, by go_num, by omega, HAN.out, HJ6.out⟩
                case measure => simp [intOf]; omega
            · have hkn : k = js.length := by omega
              subst hkn
              have HNB := Lib.hid (show anyBad js = false by have h9 := HAK.out; rwa [List.take_length] at h9)
              have HE4 := Lib.hid (HE3.out HNB.out)
              clear hkl hk
              clear d0 d1 d2
              go_wp2_with fail
              obtain ⟨w7, rfl⟩ : ∃ w7 : World, w7 = wr := ⟨_, rfl⟩
              go_loopw [12] (fun kv wr => ∃ k : Nat, kv = .int .i64 k ∧ k ≤ js.length ∧ prev + (k : Int) ≤ L ∧ x.diff (prev + 1) (js.map MItem.it) = x.diff (prev + 1 + (k : Int)) ((js.drop k).map MItem.it) ∧ JB w x a ms.length c wr) (fun kv _ => js.length - (intOf kv).toNat)
              case atStart => exact ⟨0, rfl, by omega, by simpa using hpl, by simp, HJK.out⟩
              case round =>
                obtain ⟨k, rfl, hk, hub, hdf, hjk⟩ := hrel
                have HDF := Lib.hid hdf
                have HJK := Lib.hid hjk
                clear hdf hjk
                by_cases hkl : k < js.length
                · obtain ⟨mi, hmi⟩ : ∃ mi, js[k]? = some mi := ⟨_, List.getElem?_eq_getElem hkl⟩
                  have hmem : mi ∈ js := List.mem_of_getElem? hmi
                  have hmt : 0 ≤ mi.t := ((rightI_iff _).1 (anyBad_get HNB.out hmem)).1
                  have HMI := Lib.hid hmi
                  obtain ⟨b, o, hja, hb, k0, k1⟩ := HJ.out.cell hmi
                  have c0 : wr.cell? ⟨b, o + k * 2, none⟩ = some (.int .i64 mi.t) := (HJK.out.bel.cell (p := ⟨b, o + k * 2, none⟩) hb).trans k0
                  have HS := Lib.hid (show RJS w.heap.size x a ms.length c b (o + k * 2) mi.t wr from ⟨HJK.out.r0, HJK.out.cells.1, HJK.out.cells.2.2, c0⟩)
                  have tk : decide ((k : Int) < (js.length : Int)) = true := by simpa using hkl
                  have hk0 : (0 : Int) ≤ (k : Int) := by omega
                  have hk1 : (k : Int) < (js.length : Int) := by omega
                  have HSTEP := Lib.hid (show (prev + 1 + (k : Int) ≤ x.base ∨ x.tm (prev + 1 + (k : Int)) = mi.t) → prev + ((k + 1 : Nat) : Int) ≤ L ∧ x.diff (prev + 1) (js.map MItem.it) = x.diff (prev + 1 + ((k + 1 : Nat) : Int)) ((js.drop (k + 1)).map MItem.it) from fun h9 => by
                    constructor
                    · rcases h9 with h9 | h9
                      · omega
                      · have h10 := (hg.tm_ge (prev + 1 + (k : Int))).1 (by omega)
                        rw [HL.out] at h10
                        omega
                    · have e9 : js[k] = mi := by have h10 := HMI.out; rw [List.getElem?_eq_getElem hkl] at h10; injection h10
                      rw [HDF.out, List.drop_eq_getElem_cons hkl, e9, List.map_cons, PLine.diff_step (by simp) (by simpa using h9)]
                      rw [show prev + 1 + (k : Int) + 1 = prev + 1 + ((k + 1 : Nat) : Int) by omega]
                      rfl)
                  subst hja
                  have hwr := HJK.out.sz
                  clear k0 k1 hmi hmem c0
                  by_cases hA : prev + 1 + (k : Int) ≤ x.base
                  · have tA : decide (prev + 1 + (k : Int) ≤ x.base) = true := by simpa using hA
                    have HNX := Lib.hid (HSTEP.out (.inl hA))
                    clear hA
                    go_wp2_with fail
                    refine wp_region_any (by kernel_rfl) ?_
                    refine wpAny_of_held (S := RJS w.heap.size x a ms.length c b (o + k * 2) mi.t) _ _ _ _ ?_
                    have hS0 : RJS w.heap.size x a ms.length c b (o + k * 2) mi.t wr.drew := HS.out.keep (N := wr.heap.size) (Below.refl _ _).drew (by omega) (by omega)
                    refine heldTake 0 60 rfl rfl (by kernel_rfl) (by kernel_rfl) (by kernel_rfl) (fun _ _ _ h => h) hS0 (.inl ⟨by rfl, by intro w' hS; obtain ⟨s1, s2, s3, s4⟩ := hS; go_simp; (try rfl)⟩) ?_
                    simp only [List.set_cons_zero, List.set_cons_succ]
                    refine heldTake 1 61 rfl rfl (by kernel_rfl) (by kernel_rfl) (by kernel_rfl) (fun _ _ _ h => h) hS0 (.inl ⟨by rfl, by intro w' hS; obtain ⟨s1, s2, s3, s4⟩ := hS; go_simp; (try rfl)⟩) ?_
                    simp only [List.set_cons_zero, List.set_cons_succ]
                    refine heldTake 2 62 rfl rfl (by kernel_rfl) (by kernel_rfl) (by kernel_rfl) (fun _ _ _ h => h) hS0 (.inl ⟨by rfl, by intro w' hS; obtain ⟨s1, s2, s3, s4⟩ := hS; go_simp; (try rfl)⟩) ?_
                    simp only [List.set_cons_zero, List.set_cons_succ]
                    refine heldTake 3 63 rfl rfl (by kernel_rfl) (by kernel_rfl) (by kernel_rfl) (fun _ _ _ h => h) hS0 (.inl ⟨by rfl, by intro w' hS; obtain ⟨s1, s2, s3, s4⟩ := hS; go_simp; (try rfl)⟩) ?_
                    simp only [List.set_cons_zero, List.set_cons_succ]
                    refine heldTake 4 64 rfl rfl (by kernel_rfl) (by kernel_rfl) (by kernel_rfl) (fun _ _ _ h => h) hS0 (.inl ⟨by rfl, by intro w' hS; obtain ⟨s1, s2, s3, s4⟩ := hS; go_simp; (try rfl)⟩) ?_
                    simp only [List.set_cons_zero, List.set_cons_succ]
                    refine heldTake 5 65 rfl rfl (by kernel_rfl) (by kernel_rfl) (by kernel_rfl) (fun _ _ _ h => h) hS0 (.inr ⟨by rfl, rfl⟩) ?_
                    simp only [List.set_cons_zero, List.set_cons_succ]
                    refine heldTake 6 66 rfl rfl (by kernel_rfl) (by kernel_rfl) (by kernel_rfl) (fun _ _ _ h => h) hS0 (.inr ⟨by rfl, rfl⟩) ?_
                    simp only [List.set_cons_zero, List.set_cons_succ]
                    refine heldTake 7 67 rfl rfl (by kernel_rfl) (by kernel_rfl) (by kernel_rfl) (fun _ _ _ h => h) hS0 (.inr ⟨by rfl, rfl⟩) ?_
                    simp only [List.set_cons_zero, List.set_cons_succ]
                    refine heldTake 8 68 rfl rfl (by kernel_rfl) (by kernel_rfl) (by kernel_rfl) (fun _ _ _ h => h) hS0 (.inr ⟨by rfl, rfl⟩) ?_
                    simp only [List.set_cons_zero, List.set_cons_succ]
                    refine heldTake 9 69 rfl rfl (by kernel_rfl) (by kernel_rfl) (by kernel_rfl) (fun _ _ _ h => h) hS0 (.inr ⟨by rfl, rfl⟩) ?_
                    simp only [List.set_cons_zero, List.set_cons_succ]
                    refine heldTake 10 70 rfl rfl (by kernel_rfl) (by kernel_rfl) (by kernel_rfl) (fun _ _ _ h => h) hS0 (.inr ⟨by rfl, rfl⟩) ?_
                    simp only [List.set_cons_zero, List.set_cons_succ]
                    refine heldTake 11 71 rfl rfl (by kernel_rfl) (by kernel_rfl) (by kernel_rfl) (fun _ _ _ h => h) hS0 (.inr ⟨by rfl, rfl⟩) ?_
                    simp only [List.set_cons_zero, List.set_cons_succ]
                    refine heldTake 12 72 rfl rfl (by kernel_rfl) (by kernel_rfl) (by kernel_rfl) (fun _ _ _ h => h) hS0 (.inr ⟨by rfl, rfl⟩) ?_
                    simp only [List.set_cons_zero, List.set_cons_succ]
                    refine heldTake 13 73 rfl rfl (by kernel_rfl) (by kernel_rfl) (by kernel_rfl) (fun _ _ _ h => h) hS0 (.inr ⟨by rfl, rfl⟩) ?_
                    simp only [List.set_cons_zero, List.set_cons_succ]
                    refine heldTake 14 74 rfl rfl (by kernel_rfl) (by kernel_rfl) (by kernel_rfl) (fun _ _ _ h => h) hS0 (.inl ⟨by rfl, by intro w' hS; obtain ⟨s1, s2, s3, s4⟩ := hS; go_simp; (try rfl)⟩) ?_
                    simp only [List.set_cons_zero, List.set_cons_succ]
                    refine wpAnyH_done (by kernel_rfl) ?_ _
                    clear hS0
                    have HJD := Lib.hid (HJK.out.next (show Below wr.heap.size wr wr.drew from (Below.refl _ _).drew))
                    go_wp2
                    go_roundw
                    case rel => exact ⟨k + 1, by go_num, by omega, HNX.out.1, HNX.out.2, HJD.out⟩
                    case measure => simp [intOf]; omega
                  · have tA : decide (prev + 1 + (k : Int) ≤ x.base) = false := by simpa using hA
                    obtain ⟨T2, hT2⟩ : ∃ T2, x.tm (prev + 1 + (k : Int)) = T2 := ⟨_, rfl⟩
                    have HT2 := Lib.hid hT2
                    by_cases hB : T2 = mi.t
                    · have tB : (T2 == mi.t) = true := by simpa using hB
                      have HNX := Lib.hid (HSTEP.out (.inr (hT2.trans hB)))
                      clear hA hB hT2
                      go_wp2_with fail
                      refine wp_region_any (by kernel_rfl) ?_
                      refine wpAny_of_held (S := RJS w.heap.size x a ms.length c b (o + k * 2) mi.t) _ _ _ _ ?_
                      have hS0 : RJS w.heap.size x a ms.length c b (o + k * 2) mi.t wr.drew := HS.out.keep (N := wr.heap.size) (Below.refl _ _).drew (by omega) (by omega)
                      refine heldTake 0 60 rfl rfl (by kernel_rfl) (by kernel_rfl) (by kernel_rfl) (fun _ _ _ h => h) hS0 (.inl ⟨by rfl, by intro w' hS; obtain ⟨s1, s2, s3, s4⟩ := hS; go_simp; (try rfl)⟩) ?_
                      simp only [List.set_cons_zero, List.set_cons_succ]
                      refine heldTake 1 61 rfl rfl (by kernel_rfl) (by kernel_rfl) (by kernel_rfl) (fun _ _ _ h => h) hS0 (.inl ⟨by rfl, by intro w' hS; obtain ⟨s1, s2, s3, s4⟩ := hS; go_simp; (try rfl)⟩) ?_
                      simp only [List.set_cons_zero, List.set_cons_succ]
                      refine heldTake 2 62 rfl rfl (by kernel_rfl) (by kernel_rfl) (by kernel_rfl) (fun _ _ _ h => h) hS0 (.inl ⟨by rfl, by intro w' hS; obtain ⟨s1, s2, s3, s4⟩ := hS; go_simp; (try rfl)⟩) ?_
                      simp only [List.set_cons_zero, List.set_cons_succ]
                      refine heldTake 3 63 rfl rfl (by kernel_rfl) (by kernel_rfl) (by kernel_rfl) (fun _ _ _ h => h) hS0 (.inl ⟨by rfl, by intro w' hS; obtain ⟨s1, s2, s3, s4⟩ := hS; go_simp; (try rfl)⟩) ?_
                      simp only [List.set_cons_zero, List.set_cons_succ]
                      refine heldTake 4 64 rfl rfl (by kernel_rfl) (by kernel_rfl) (by kernel_rfl) (fun _ _ _ h => h) hS0 (.inl ⟨by rfl, by intro w' hS; obtain ⟨s1, s2, s3, s4⟩ := hS; go_simp; (try rfl)⟩) ?_
                      simp only [List.set_cons_zero, List.set_cons_succ]
                      refine heldTake 5 65 rfl rfl (by kernel_rfl) (by kernel_rfl) (by kernel_rfl) (fun _ _ _ h => h) hS0 (yieldsIf_load_is (by rfl) 88 (.tmp 4) rfl w.heap.size rfl 88 #[.int .i64 x.base, .int .i64 x.term, .slice a ms.length c] _ (fun _ h => h.r0) Try.underlying88 rfl infoRLine) ?_
                      simp only [List.set_cons_zero, List.set_cons_succ]
                      refine heldTake 6 66 rfl rfl (by kernel_rfl) (by kernel_rfl) (by kernel_rfl) (fun _ _ _ h => h) hS0 (.inl ⟨by rfl, by intro w' hS; obtain ⟨s1, s2, s3, s4⟩ := hS; go_simp; (try rfl)⟩) ?_
                      simp only [List.set_cons_zero, List.set_cons_succ]
                      refine heldTake 8 68 rfl rfl (by kernel_rfl) (by kernel_rfl) (by kernel_rfl) (fun _ _ _ h => h) hS0 (.inl ⟨by rfl, by intro w' hS; obtain ⟨s1, s2, s3, s4⟩ := hS; go_simp; (try rfl)⟩) ?_
                      simp only [List.set_cons_zero, List.set_cons_succ]
                      refine heldTake 9 69 rfl rfl (by kernel_rfl) (by kernel_rfl) (by kernel_rfl) (fun _ _ _ h => h) hS0 (.inl ⟨by rfl, by intro w' hS; obtain ⟨s1, s2, s3, s4⟩ := hS; go_simp; (try rfl)⟩) ?_
                      simp only [List.set_cons_zero, List.set_cons_succ]
                      refine heldTake 10 70 rfl rfl (by kernel_rfl) (by kernel_rfl) (by kernel_rfl) (fun _ _ _ h => h) hS0 (.inl ⟨by rfl, by intro w' hS; obtain ⟨s1, s2, s3, s4⟩ := hS; go_simp; (try rfl)⟩) ?_
                      simp only [List.set_cons_zero, List.set_cons_succ]
                      refine heldTake 11 71 rfl rfl (by kernel_rfl) (by kernel_rfl) (by kernel_rfl) (fun _ _ _ h => h) hS0 (.inl ⟨by rfl, by intro w' hS; obtain ⟨s1, s2, s3, s4⟩ := hS; go_simp; (try rfl)⟩) ?_
                      simp only [List.set_cons_zero, List.set_cons_succ]
                      refine heldTake 12 72 rfl rfl (by kernel_rfl) (by kernel_rfl) (by kernel_rfl) (fun _ _ _ h => h) hS0 (.inl ⟨by rfl, by intro w' hS; obtain ⟨s1, s2, s3, s4⟩ := hS; go_simp; (try rfl)⟩) ?_
                      simp only [List.set_cons_zero, List.set_cons_succ]
                      refine heldOne 7 (by kernel_rfl) rfl (by rfl) ?_
                      clear hS0
                      go_simp
                      have hdr : Below wr.heap.size wr wr.drew := (Below.refl _ _).drew
                      refine (r17At x hg a c ms (prev + 1 + (k : Int)) _ ((H.out.below (HJK.out.next hdr).bel (Nat.le_refl _)).mono (HJK.out.next hdr).bel.size)).mono ?_
                      rintro e w9 ⟨rfl, hb9⟩
                      rw [HT2.out]
                      have HJ9 := Lib.hid ((HJK.out.next hdr).next hb9)
                      have hS9 := HS.out.keep (hdr.trans hb9) (by omega) (by omega)
                      have HS9 := Lib.hid hS9
                      refine ⟨hS9, ?_⟩
                      clear hb9 hdr
                      refine heldTake 13 73 rfl rfl (by kernel_rfl) (by kernel_rfl) (by kernel_rfl) (fun _ _ _ h => h) hS9 (.inl ⟨by rfl, by intro w' hS; obtain ⟨s1, s2, s3, s4⟩ := hS; go_simp; (try rfl)⟩) ?_
                      simp only [List.set_cons_zero, List.set_cons_succ]
                      refine heldTake 14 74 rfl rfl (by kernel_rfl) (by kernel_rfl) (by kernel_rfl) (fun _ _ _ h => h) hS9 (.inl ⟨by rfl, by intro w' hS; obtain ⟨s1, s2, s3, s4⟩ := hS; go_simp; (try rfl)⟩) ?_
                      simp only [List.set_cons_zero, List.set_cons_succ]
                      refine wpAnyH_done (by kernel_rfl) ?_ _
                      clear hS9
                      go_wp2
                      go_roundw
                      case rel => exact ⟨k + 1, by go_num, by omega, HNX.out.1, HNX.out.2, HJ9.out⟩
                      case measure => simp [intOf]; omega
                    · have tB : (T2 == mi.t) = false := by simpa using hB
                      have HD2 := Lib.hid (show x.diff (prev + 1) (js.map MItem.it) = some (prev + 1 + (k : Int), (js.drop k).map MItem.it) from by
                        rw [HDF.out]
                        refine PLine.diff_stop (by simp; omega) ?_
                        have e9 : js[k] = mi := by have h10 := HMI.out; rw [List.getElem?_eq_getElem hkl] at h10; injection h10
                        rw [List.drop_eq_getElem_cons hkl, e9]
                        simp only [List.map_cons, List.getD_cons_zero]
                        rw [hT2]
                        intro h9
                        rcases h9 with h9 | h9
                        · exact hA h9
                        · exact hB h9)
                      obtain ⟨kp, hkp⟩ : ∃ kp : Nat, prev + 1 + (k : Int) - x.base - 1 = (kp : Int) := ⟨(prev + 1 + (k : Int) - x.base - 1).toNat, by omega⟩
                      have hlb9 := HLB.out
                      have hkm : kp ≤ ms.length := by omega
                      have hmc := H.out.its.sl.hle
                      have hkc : kp ≤ c := by omega
                      have HKM := Lib.hid hkm
                      have HKC := Lib.hid hkc
                      obtain ⟨n2, hn2⟩ : ∃ n2, n2 = js.length - k := ⟨_, rfl⟩
                      have HN2 := Lib.hid hn2
                      have hn2b : n2 ≤ 100000 := by omega
                      obtain ⟨f, hf⟩ : ∃ f, fitsB x ((kp : Int) + (n2 : Int)) = f := ⟨_, rfl⟩
                      have HF := Lib.hid hf
                      have HE5 := Lib.hid (show E = if fitsB x ((kp : Int) + (n2 : Int)) = true then (⟨x.base, x.term, x.l.take kp ++ (js.drop k).map MItem.it⟩, prev + 1 + (k : Int), true) else (x, 0, false) from by
                        rw [HE4.out, HD2.out]
                        simp only [List.length_map, List.length_drop]
                        rw [hkp, ← hn2, show ((kp : Int)).toNat = kp by omega]
                        (try rfl))
                      have s1 : IntKind.i64.wrap (prev + 1 + (k : Int) - x.base) = prev + 1 + (k : Int) - x.base := IntWalk.i64_in _ (by omega)
                      have wK : IntKind.i64.wrap (kp : Int) = kp := IntWalk.i64_in _ (by omega)
                      have hK0 : (0 : Int) ≤ (kp : Int) := by omega
                      have hK1 : (kp : Int) ≤ (c : Int) := by omega
                      have wk2 : IntKind.i64.wrap (k : Int) = k := IntWalk.i64_in _ (by omega)
                      have hk2 : (k : Int) ≤ (js.length : Int) := by omega
                      obtain ⟨A2, hA2⟩ : ∃ A2, (if jc = k then some (⟨b, o, none⟩ : Addr) else some ⟨b, o + k * 2, none⟩) = A2 := ⟨_, rfl⟩
                      have HSJ := Lib.hid (show ItemsAt w w.heap.size A2 n2 (jc - k) (js.drop k) from by
                        have h9 := HJ.out.from_ (k := k) (by omega)
                        rw [← hA2, hn2]
                        have e9 : (if jc = k then some (⟨b, o, none⟩ : Addr) else some ⟨b, o + k * 2, none⟩) = (if jc = k then some (⟨b, o, none⟩ : Addr) else (some (⟨b, o, none⟩ : Addr)).map (·.add (k * 2))) := by split <;> simp [Addr.add_lit]
                        rw [e9]
                        exact h9)
                      have HSU := Lib.hid (show SlAt w w.heap.size 2 a kp c (cellsM (ms.take kp)) from by
                        have h9 := H.out.its.sl.upto (k := kp) (m := c) hkm (by omega) (Nat.le_refl _)
                        rwa [cellsM_take] at h9)
                      clear hA hB hT2 hf hlb9 hmc hkm hn2 tA
                      have tA : decide (prev + 1 + (k : Int) ≤ x.base) = false := by simp; omega
                      go_wp2_with fail
                      refine wp_region_any (by kernel_rfl) ?_
                      refine wpAny_of_held (S := RJS w.heap.size x a ms.length c b (o + k * 2) mi.t) _ _ _ _ ?_
                      have hS0 : RJS w.heap.size x a ms.length c b (o + k * 2) mi.t wr.drew := HS.out.keep (N := wr.heap.size) (Below.refl _ _).drew (by omega) (by omega)
                      refine heldTake 0 60 rfl rfl (by kernel_rfl) (by kernel_rfl) (by kernel_rfl) (fun _ _ _ h => h) hS0 (.inl ⟨by rfl, by intro w' hS; obtain ⟨s1, s2, s3, s4⟩ := hS; go_simp; (try rfl)⟩) ?_
                      simp only [List.set_cons_zero, List.set_cons_succ]
                      refine heldTake 1 61 rfl rfl (by kernel_rfl) (by kernel_rfl) (by kernel_rfl) (fun _ _ _ h => h) hS0 (.inl ⟨by rfl, by intro w' hS; obtain ⟨s1, s2, s3, s4⟩ := hS; go_simp; (try rfl)⟩) ?_
                      simp only [List.set_cons_zero, List.set_cons_succ]
                      refine heldTake 2 62 rfl rfl (by kernel_rfl) (by kernel_rfl) (by kernel_rfl) (fun _ _ _ h => h) hS0 (.inl ⟨by rfl, by intro w' hS; obtain ⟨s1, s2, s3, s4⟩ := hS; go_simp; (try rfl)⟩) ?_
                      simp only [List.set_cons_zero, List.set_cons_succ]
                      refine heldTake 3 63 rfl rfl (by kernel_rfl) (by kernel_rfl) (by kernel_rfl) (fun _ _ _ h => h) hS0 (.inl ⟨by rfl, by intro w' hS; obtain ⟨s1, s2, s3, s4⟩ := hS; go_simp; (try rfl)⟩) ?_
                      simp only [List.set_cons_zero, List.set_cons_succ]
                      refine heldTake 4 64 rfl rfl (by kernel_rfl) (by kernel_rfl) (by kernel_rfl) (fun _ _ _ h => h) hS0 (.inl ⟨by rfl, by intro w' hS; obtain ⟨s1, s2, s3, s4⟩ := hS; go_simp; (try rfl)⟩) ?_
                      simp only [List.set_cons_zero, List.set_cons_succ]
                      refine heldTake 5 65 rfl rfl (by kernel_rfl) (by kernel_rfl) (by kernel_rfl) (fun _ _ _ h => h) hS0 (yieldsIf_load_is (by rfl) 88 (.tmp 4) rfl w.heap.size rfl 88 #[.int .i64 x.base, .int .i64 x.term, .slice a ms.length c] _ (fun _ h => h.r0) Try.underlying88 rfl infoRLine) ?_
                      simp only [List.set_cons_zero, List.set_cons_succ]
                      refine heldTake 6 66 rfl rfl (by kernel_rfl) (by kernel_rfl) (by kernel_rfl) (fun _ _ _ h => h) hS0 (.inl ⟨by rfl, by intro w' hS; obtain ⟨s1, s2, s3, s4⟩ := hS; go_simp; (try rfl)⟩) ?_
                      simp only [List.set_cons_zero, List.set_cons_succ]
                      refine heldTake 8 68 rfl rfl (by kernel_rfl) (by kernel_rfl) (by kernel_rfl) (fun _ _ _ h => h) hS0 (.inl ⟨by rfl, by intro w' hS; obtain ⟨s1, s2, s3, s4⟩ := hS; go_simp; (try rfl)⟩) ?_
                      simp only [List.set_cons_zero, List.set_cons_succ]
                      refine heldTake 9 69 rfl rfl (by kernel_rfl) (by kernel_rfl) (by kernel_rfl) (fun _ _ _ h => h) hS0 (.inl ⟨by rfl, by intro w' hS; obtain ⟨s1, s2, s3, s4⟩ := hS; go_simp; (try rfl)⟩) ?_
                      simp only [List.set_cons_zero, List.set_cons_succ]
                      refine heldTake 10 70 rfl rfl (by kernel_rfl) (by kernel_rfl) (by kernel_rfl) (fun _ _ _ h => h) hS0 (.inl ⟨by rfl, by intro w' hS; obtain ⟨s1, s2, s3, s4⟩ := hS; go_simp; (try rfl)⟩) ?_
                      simp only [List.set_cons_zero, List.set_cons_succ]
                      refine heldTake 11 71 rfl rfl (by kernel_rfl) (by kernel_rfl) (by kernel_rfl) (fun _ _ _ h => h) hS0 (.inl ⟨by rfl, by intro w' hS; obtain ⟨s1, s2, s3, s4⟩ := hS; go_simp; (try rfl)⟩) ?_
                      simp only [List.set_cons_zero, List.set_cons_succ]
                      refine heldTake 12 72 rfl rfl (by kernel_rfl) (by kernel_rfl) (by kernel_rfl) (fun _ _ _ h => h) hS0 (.inl ⟨by rfl, by intro w' hS; obtain ⟨s1, s2, s3, s4⟩ := hS; go_simp; (try rfl)⟩) ?_
                      simp only [List.set_cons_zero, List.set_cons_succ]
                      refine heldOne 7 (by kernel_rfl) rfl (by rfl) ?_
                      clear hS0
                      go_simp
                      have hdr : Below wr.heap.size wr wr.drew := (Below.refl _ _).drew
                      refine (r17At x hg a c ms (prev + 1 + (k : Int)) _ ((H.out.below (HJK.out.next hdr).bel (Nat.le_refl _)).mono (HJK.out.next hdr).bel.size)).mono ?_
                      rintro e w9 ⟨rfl, hb9⟩
                      rw [HT2.out]
                      have HJ9 := Lib.hid ((HJK.out.next hdr).next hb9)
                      have hS9 := HS.out.keep (hdr.trans hb9) (by omega) (by omega)
                      have HS9 := Lib.hid hS9
                      refine ⟨hS9, ?_⟩
                      clear hb9 hdr
                      refine heldTake 13 73 rfl rfl (by kernel_rfl) (by kernel_rfl) (by kernel_rfl) (fun _ _ _ h => h) hS9 (.inl ⟨by rfl, by intro w' hS; obtain ⟨s1, s2, s3, s4⟩ := hS; go_simp; (try rfl)⟩) ?_
                      simp only [List.set_cons_zero, List.set_cons_succ]
                      refine heldTake 14 74 rfl rfl (by kernel_rfl) (by kernel_rfl) (by kernel_rfl) (fun _ _ _ h => h) hS9 (.inl ⟨by rfl, by intro w' hS; obtain ⟨s1, s2, s3, s4⟩ := hS; go_simp; (try rfl)⟩) ?_
                      simp only [List.set_cons_zero, List.set_cons_succ]
                      refine wpAnyH_done (by kernel_rfl) ?_ _
                      clear hS9
                      clear hwr HSTEP
                      go_wp2_with fail
                      refine wp_region_any (by kernel_rfl) ?_
                      refine wpAny_of_held (S := RJS w.heap.size x a ms.length c b (o + k * 2) mi.t) _ _ _ _ ?_
                      obtain ⟨X, hX⟩ : ∃ X, X = w9.drew := ⟨_, rfl⟩
                      refine (show wpAnyH _ _ _ _ _ _ _ _ w9.drew from ?_)
                      rw [← hX]
                      have hs9 := HJ9.out.sz
                      have BX := Lib.hid (show Below w9.heap.size w9 X by rw [hX]; exact (Below.refl _ _).drew)
                      have qX : w9.heap.size ≤ X.heap.size := BX.out.size
                      have hSX := HS9.out.keep BX.out (by omega) (by omega)
                      clear hX
                      refine heldTake 1 76 rfl rfl (by kernel_rfl) (by kernel_rfl) (by kernel_rfl) (fun _ _ _ h => h) hSX (.inl ⟨by rfl, by intro w' hS; obtain ⟨s1, s2, s3, s4⟩ := hS; go_simp; (try rfl)⟩) ?_
                      simp only [List.set_cons_zero, List.set_cons_succ]
                      refine heldTake 2 77 rfl rfl (by kernel_rfl) (by kernel_rfl) (by kernel_rfl) (fun _ _ _ h => h) hSX (.inl ⟨by rfl, by intro w' hS; obtain ⟨s1, s2, s3, s4⟩ := hS; go_simp; (try rfl)⟩) ?_
                      simp only [List.set_cons_zero, List.set_cons_succ]
                      refine heldTake 3 78 rfl rfl (by kernel_rfl) (by kernel_rfl) (by kernel_rfl) (fun _ _ _ h => h) hSX (.inl ⟨by rfl, by intro w' hS; obtain ⟨s1, s2, s3, s4⟩ := hS; go_simp; (try rfl)⟩) ?_
                      simp only [List.set_cons_zero, List.set_cons_succ]
                      refine heldTake 4 79 rfl rfl (by kernel_rfl) (by kernel_rfl) (by kernel_rfl) (fun _ _ _ h => h) hSX (.inl ⟨by rfl, by intro w' hS; obtain ⟨s1, s2, s3, s4⟩ := hS; go_simp; (try rfl)⟩) ?_
                      simp only [List.set_cons_zero, List.set_cons_succ]
                      refine heldTake 5 80 rfl rfl (by kernel_rfl) (by kernel_rfl) (by kernel_rfl) (fun _ _ _ h => h) hSX (.inl ⟨by rfl, by intro w' hS; obtain ⟨s1, s2, s3, s4⟩ := hS; go_simp; (try rfl)⟩) ?_
                      simp only [List.set_cons_zero, List.set_cons_succ]
                      refine heldTake 6 81 rfl rfl (by kernel_rfl) (by kernel_rfl) (by kernel_rfl) (fun _ _ _ h => h) hSX (.inl ⟨by rfl, by intro w' hS; obtain ⟨s1, s2, s3, s4⟩ := hS; go_simp; (try rfl)⟩) ?_
                      simp only [List.set_cons_zero, List.set_cons_succ]
                      refine heldTake 7 82 rfl rfl (by kernel_rfl) (by kernel_rfl) (by kernel_rfl) (fun _ _ _ h => h) hSX (.inl ⟨by rfl, by intro w' hS; obtain ⟨s1, s2, s3, s4⟩ := hS; go_simp; (try rfl)⟩) ?_
                      simp only [List.set_cons_zero, List.set_cons_succ]
                      refine heldTake 8 83 rfl rfl (by kernel_rfl) (by kernel_rfl) (by kernel_rfl) (fun _ _ _ h => h) hSX (.inl ⟨by rfl, by intro w' hS; obtain ⟨s1, s2, s3, s4⟩ := hS; go_simp; (try rfl)⟩) ?_
                      simp only [List.set_cons_zero, List.set_cons_succ]
                      refine heldTake 10 85 rfl rfl (by kernel_rfl) (by kernel_rfl) (by kernel_rfl) (fun _ _ _ h => h) hSX (.inl ⟨by rfl, by intro w' hS; obtain ⟨s1, s2, s3, s4⟩ := hS; go_simp; (try rfl)⟩) ?_
                      simp only [List.set_cons_zero, List.set_cons_succ]
                      refine heldTake 11 86 rfl rfl (by kernel_rfl) (by kernel_rfl) (by kernel_rfl) (fun _ _ _ h => h) hSX (.inl ⟨by rfl, by intro w' hS; obtain ⟨s1, s2, s3, s4⟩ := hS; go_simp; (try rfl)⟩) ?_
                      simp only [List.set_cons_zero, List.set_cons_succ]
                      refine heldTake 12 87 rfl rfl (by kernel_rfl) (by kernel_rfl) (by kernel_rfl) (fun _ _ _ h => h) hSX (.inl ⟨by rfl, by intro w' hS; obtain ⟨s1, s2, s3, s4⟩ := hS; go_simp; (try rfl)⟩) ?_
                      simp only [List.set_cons_zero, List.set_cons_succ]
                      clear hSX s1 wK hK0 hK1 wk2 hk2 hA2
                      refine heldOne 0 (by kernel_rfl) rfl (by rfl) ?_
                      go_simp
                      obtain ⟨U1, hU1⟩ : ∃ z, z = X.alloc (.cells #[] 45) := ⟨_, rfl⟩
                      rw [← hU1]
                      have AU1 : Below X.heap.size X U1 := by rw [hU1]; exact (Below.refl _ _).alloc (Nat.le_refl _) _
                      have BU1 := Lib.hid (show Below w9.heap.size w9 U1 from BX.out.trans (AU1.mono qX))
                      have qU1 : w9.heap.size ≤ U1.heap.size := BU1.out.size
                      have E1 := Lib.hid (show U1.ownsRow w9.heap.size 45 2 (.slice (some ⟨X.heap.size, 0, none⟩) 0 0) 0 [] by rw [hU1]; exact ownsRow_nilT X w9.heap.size 2 qX 45)
                      clear hU1 AU1
                      refine ⟨HS9.out.keep BU1.out (by omega) (by omega), ?_⟩
                      refine heldOne 9 (by kernel_rfl) rfl (by rfl) ?_
                      refine wp_append_sl U1 (.tmp 75) (.tmp 83) 49 rfl w9.heap.size 45 i0 (.agg #[.int .i64 0, .slice none 0 0]) 2 32 Try.underlying49 hi hz0 hz1 hz2 rfl (by decide) (.slice (some ⟨X.heap.size, 0, none⟩) 0 0) 0 [] rfl E1.out U1.heap.size a kp c (cellsM (ms.take kp)) rfl ((HSU.out.below (HJ9.out.bel.trans (BU1.out.mono HJ9.out.bel.size)) (Nat.le_refl _)).mono (by omega)) (cellsM_one _) (by unfold maxLen; have := HKM.out; omega) (by have := HKM.out; omega) qU1 ?_
                      intro a2 c2 U2 o2 g2 _
                      simp only [Nat.zero_add, List.nil_append] at o2 ⊢
                      have BU2 := Lib.hid (show Below w9.heap.size w9 U2 from BU1.out.grown g2 qU1 (fun k hk => (own_lt E1.out hk).1))
                      have qU2 : w9.heap.size ≤ U2.heap.size := BU2.out.size
                      have O2 := Lib.hid o2
                      clear o2 g2
                      refine ⟨HS9.out.keep BU2.out (by omega) (by omega), ?_⟩
                      refine heldOne 13 (by kernel_rfl) rfl (by rfl) ?_
                      refine wp_append_sl U2 (.tmp 84) (.tmp 87) 49 rfl w9.heap.size 45 i0 (.agg #[.int .i64 0, .slice none 0 0]) 2 32 Try.underlying49 hi hz0 hz1 hz2 rfl (by decide) (.slice a2 kp c2) kp (cellsM (ms.take kp)) rfl O2.out U2.heap.size A2 n2 (jc - k) (cellsM (js.drop k)) (by rw [HN2.out]; rfl) ((HSJ.out.below (HJ9.out.bel.trans (BU2.out.mono HJ9.out.bel.size)) (Nat.le_refl _)).mono (by omega)).sl (cellsM_one _) (by unfold maxLen; have := HKM.out; omega) (by have := HKM.out; omega) qU2 ?_
                      intro a3 c3 U3 o3 g3 _
                      have BU3 := Lib.hid (show Below w9.heap.size w9 U3 from BU2.out.grown g3 qU2 (fun k hk => (own_lt O2.out hk).1))
                      have qU3 : w9.heap.size ≤ U3.heap.size := BU3.out.size
                      have O3 := Lib.hid o3
                      clear o3 g3
                      have hSU3 := HS9.out.keep BU3.out (by omega) (by omega)
                      refine ⟨hSU3, ?_⟩
                      go_simp
                      refine heldTake 14 14 rfl rfl (by kernel_rfl) (by kernel_rfl) (by kernel_rfl) (fun _ _ _ h => h) hSU3 (.inl ⟨by rfl, by intro w' hS; obtain ⟨s1, s2, s3, s4⟩ := hS; go_simp; (try rfl)⟩) ?_
                      simp only [List.set_cons_zero, List.set_cons_succ]
                      refine wpAnyH_done (by kernel_rfl) ?_ _
                      clear hSU3
                      have HJU := Lib.hid (HJ9.out.next BU3.out)
                      obtain ⟨d0, d1, d2⟩ := HJU.out.cells
                      go_wp2_with fail
                      refine (r17Fits x hb0 hb1 a ms.length c _ _).mono ?_
                      rintro e w10 ⟨rfl, hb10⟩
                      have hf9 := HF.out
                      rw [HF.out]
                      have HJ10 := Lib.hid (HJU.out.next hb10)
                      have HO10 := Lib.hid (own_below' O3.out hb10)
                      have BU10 := Lib.hid (BU3.out.trans (hb10.mono qU3))
                      clear hb10 d0 d1 d2 hf9
                      cases f with
                      | false =>
                        have HE2 := Lib.hid (show E = (x, 0, false) from by rw [HE5.out, HF.out]; rfl)
                        obtain ⟨d0, d1, d2⟩ := HJ10.out.cells
                        go_wp2_with (refine wpList_store_abs rfl 88 (.tmp 8) (.tmp 94) rfl (w.heap.size + 1) #[.int .i64 x.base, .int .i64 x.term, .slice a ms.length c] rfl rfl 88 _ HJ10.out.r1 infoRLine rfl (by simp [Value.oneCell']) ?_; intro W5 hrow5 hoth5 hb5 hs5)
                        (try rw [Exit.noGoto_ret])
                        refine bodyPost_ret (results_row_tmp2 rfl _ _ (w.heap.size + 1) 88 _ (0, 0) _ rfl hrow5 Try.underlying88 rfl infoRLine) rfl ?_
                        exact HJ10.out.same H.out hb5 js E 0 false HE2.out
                      | true =>
                        have HE2 := Lib.hid (show E = (⟨x.base, x.term, x.l.take kp ++ (js.drop k).map MItem.it⟩, prev + 1 + (k : Int), true) from by rw [HE5.out, HF.out]; rfl)
                        obtain ⟨d0, d1, d2⟩ := HJ10.out.cells
                        have f2 : w10.frozen? ⟨w.heap.size, 2, none⟩ = false := by simp [World.frozen?, HJ10.out.r0]
                        have HR1S := Lib.hid (show (w10.setCell ⟨w.heap.size, 2, none⟩ (.slice a3 (kp + n2) c3)).heap[w.heap.size + 1]? = some (.cells #[.int .i64 0, .int .i64 0, .slice none 0 0] 88 (0, 0)) from (Below.heap_setCell _ _ _ _ (by simp)).trans HJ10.out.r1)
                        have HOV := Lib.hid (World.ownsRow.kept HO10.out (w' := w10.setCell ⟨w.heap.size, 2, none⟩ (.slice a3 (kp + n2) c3)) (row := some w.heap.size) ⟨rfl, rfl, rfl, by simp, fun k hk hne => Below.heap_setCell _ _ _ k (fun e => hne (by rw [e]))⟩ (.inr fun e => by have h9 := (own_lt HO10.out e).1; omega))
                        have HBV := Lib.hid (show Below w.heap.size w (w10.setCell ⟨w.heap.size, 2, none⟩ (.slice a3 (kp + n2) c3)) from HJ10.out.bel.trans ⟨rfl, rfl, rfl, by simp, fun k hk => Below.heap_setCell _ _ _ k (by show k ≠ w.heap.size; omega)⟩)
                        go_wp2_with (refine wpList_store_abs rfl 88 (.tmp 8) (.tmp 97) rfl (w.heap.size + 1) #[.int .i64 x.base, .int .i64 x.term, .slice a3 (kp + n2) c3] rfl rfl 88 _ HR1S.out infoRLine rfl (by simp [Value.oneCell']) ?_; intro W5 hrow5 hoth5 hb5 hs5)
                        (try rw [Exit.noGoto_ret])
                        refine bodyPost_ret (results_row_tmp2 rfl _ _ (w.heap.size + 1) 88 _ (0, 0) _ rfl hrow5 Try.underlying88 rfl infoRLine) rfl ?_
                        have HOF := World.ownsRow.kept HOV.out (w' := W5) (row := some (w.heap.size + 1)) ⟨hb5.os, hb5.tape, hb5.output, by omega, fun k hk hne => hoth5 k (fun e => hne (by rw [e]))⟩ (.inr fun e => by have h9 := (own_lt HOV.out e).1; omega)
                        have HBF := HBV.out.trans (hb5.mono (show w.heap.size ≤ w.heap.size + 1 by omega))
                        have hkm9 := HKM.out
                        have hn9 := HN2.out
                        unfold RJoinTo
                        rw [HE2.out]
                        have hlen9 : (ms.take kp ++ js.drop k).length = kp + n2 := by simp; omega
                        have hits9 := itemsOf HOF (ms := ms.take kp ++ js.drop k) hlen9 (by rw [cellsM_append]) fun m hm => by
                          simp only [List.mem_append] at hm
                          rcases hm with hm | hm
                          · exact ((H.out.its.bs m (List.mem_of_mem_take hm)).below HBF (Nat.le_refl _)).mono HBF.size
                          · exact ((HJ.out.bs m (List.mem_of_mem_drop hm)).below HBF (Nat.le_refl _)).mono HBF.size
                        exact ⟨a3, c3, ms.take kp ++ js.drop k, by rw [hlen9]; rfl, ⟨hits9, by rw [List.map_append, List.map_take, H.out.eq]⟩, HBF, Fresh.own HOF (by have := HJ9.out.bel.size; omega), fun m hm => by
                          simp only [List.mem_append] at hm
                          rcases hm with hm | hm
                          · exact .inl (List.mem_of_mem_take hm)
                          · exact .inr (List.mem_of_mem_drop hm)⟩
                · have hkn : k = js.length := by omega
                  subst hkn
                  have HE2 := Lib.hid (show E = (x, 0, true) from by rw [HE4.out, HDF.out, List.drop_length]; rfl)
                  clear hkl hk
                  obtain ⟨d0, d1, d2⟩ := HJK.out.cells
                  go_wp2_with (refine wpList_store_abs rfl 88 (.tmp 8) (.tmp 99) rfl (w.heap.size + 1) #[.int .i64 x.base, .int .i64 x.term, .slice a ms.length c] rfl rfl 88 _ HJK.out.r1 infoRLine rfl (by simp [Value.oneCell']) ?_; intro W5 hrow5 hoth5 hb5 hs5)
                  (try rw [Exit.noGoto_ret])
                  refine bodyPost_ret (results_row_tmp2 rfl _ _ (w.heap.size + 1) 88 _ (0, 0) _ rfl hrow5 Try.underlying88 rfl infoRLine) rfl ?_
                  exact HJK.out.same H.out hb5 js E 0 true HE2.out
        · have hE2 : E = (x, 0, false) := by
            rw [hE, PLine.join]
            by_cases h9 : prev < 0 ∨ x.last < prev ∨ ((js.map MItem.it).any fun it => !rightI it) = true
            · rw [if_pos h9]
            · rw [if_neg h9, if_pos ⟨hbp, by rw [hT]; exact htm⟩]
          have HE2 := Lib.hid hE2
          have t4 : (T != term) = true := by simpa using htm
          clear hE h hj hl h1 h2 hlastd hE2 hL hT htm
          have HLEN := Lib.hid H.out.len
          go_enter Try.func54, Try.ntmps54
          go_wp2_with fail
          rw [← HW1.out]
          obtain ⟨d0, d1, d2⟩ := HJ1.out.cells
          refine (r17Last x hg a ms.length c HLEN.out _).mono ?_
          rintro e w2 ⟨rfl, hb2⟩
          rw [HL.out]
          have HJ2 := Lib.hid (HJ1.out.next hb2)
          clear hb2 d0 d1 d2
          obtain ⟨d0, d1, d2⟩ := HJ2.out.cells
          go_wp2_with fail
          refine (r17At x hg a c ms prev _ ((H.out.below HJ2.out.bel (Nat.le_refl _)).mono HJ2.out.bel.size)).mono ?_
          rintro e w3 ⟨rfl, hb3⟩
          rw [HT.out]
          have HJ3 := Lib.hid (HJ2.out.next hb3)
          clear hb3 d0 d1 d2
          obtain ⟨d0, d1, d2⟩ := HJ3.out.cells
          (try (obtain ⟨d0, d1, d2⟩ := HJ3.out.cells))
          go_wp2_with (refine wpList_store_abs rfl 88 (.tmp 8) (.tmp 36) rfl (w.heap.size + 1) #[.int .i64 x.base, .int .i64 x.term, .slice a ms.length c] rfl rfl 88 _ HJ3.out.r1 infoRLine rfl (by simp [Value.oneCell']) ?_; intro W5 hrow5 hoth5 hb5 hs5)
          refine bodyPost_ret (results_row_tmp2 rfl _ _ (w.heap.size + 1) 88 _ (0, 0) _ rfl hrow5 Try.underlying88 rfl infoRLine) rfl ?_
          exact HJ3.out.same H.out hb5 js E 0 false HE2.out
      · have t3 : decide (x.base ≤ prev) = false := by simpa using hbp
        have HEB := Lib.hid (show anyBad js = true → E = (x, 0, false) from fun h9 => by
          rw [hE, PLine.join, if_pos (.inr (.inr (by rw [anyBad_map]; exact h9)))])
        have HE3 := Lib.hid (show anyBad js = false → E = match x.diff (prev + 1) (js.map MItem.it) with
            | none => (x, 0, true)
            | some (i, r) => if fitsB x (i - x.base - 1 + r.length) = true then (⟨x.base, x.term, x.l.take (i - x.base - 1).toNat ++ r⟩, i, true) else (x, 0, false) from fun h9 => by
          rw [hE, PLine.join, if_neg (by rw [anyBad_map, h9, hL]; simp; omega), if_neg (fun h10 => by first | exact hbp h10.1 | exact h10.2 (hT.trans htm))]; rfl)
        have HLB := Lib.hid (show L = x.base + (ms.length : Int) by omega)
        have hLm : L ≤ 1099511627776 := by omega
        have hpl : prev ≤ L := by omega
        have hp1 : 0 ≤ prev := by omega
        have hLb0 : x.base ≤ L := by omega
        clear hE h hj hl h1 h2 hlastd hL hlp hp0
        have HLEN := Lib.hid H.out.len
        go_enter Try.func54, Try.ntmps54
        go_wp2_with fail
        rw [← HW1.out]
        obtain ⟨d0, d1, d2⟩ := HJ1.out.cells
        refine (r17Last x hg a ms.length c HLEN.out _).mono ?_
        rintro e w2 ⟨rfl, hb2⟩
        rw [HL.out]
        have HJ2 := Lib.hid (HJ1.out.next hb2)
        clear hb2 d0 d1 d2
        obtain ⟨d0, d1, d2⟩ := HJ2.out.cells
        go_wp2_with fail
        go_loopw [11] (fun kv wr => ∃ k : Nat, kv = .int .i64 k ∧ k ≤ js.length ∧ anyBad (js.take k) = false ∧ JB w x a ms.length c wr) (fun kv _ => js.length - (intOf kv).toNat)
        case atStart => exact ⟨0, rfl, by omega, rfl, HJ2.out⟩
        case round =>
          obtain ⟨k, rfl, hk, hak, hjk⟩ := hrel
          have HAK := Lib.hid hak
          have HJK := Lib.hid hjk
          clear hak hjk d0 d1 d2
          obtain ⟨d0, d1, d2⟩ := HJK.out.cells
          by_cases hkl : k < js.length
          · obtain ⟨mi, hmi⟩ : ∃ mi, js[k]? = some mi := ⟨_, List.getElem?_eq_getElem hkl⟩
            have hbsk := (HJ.out.bs mi (List.mem_of_getElem? hmi))
            have hmn : mi.n = mi.b.length := hbsk.hlen.symm
            have HMI := Lib.hid hmi
            obtain ⟨b, o, rfl, hb, k0, k1⟩ := HJ.out.cell hmi
            rw [hmn] at k1
            have c0 : wr.cell? ⟨b, o + k * 2, none⟩ = some (.int .i64 mi.t) := (HJK.out.bel.cell (p := ⟨b, o + k * 2, none⟩) hb).trans k0
            have c1 : wr.cell? ⟨b, o + k * 2 + 1, none⟩ = some (.slice mi.a mi.b.length mi.c) := (HJK.out.bel.cell (p := ⟨b, o + (k * 2 + 1), none⟩) hb).trans k1
            obtain ⟨R, hR⟩ : ∃ R, rightI (mi.t, mi.b) = R := ⟨_, rfl⟩
            have HR := Lib.hid hR
            have tk : decide ((k : Int) < (js.length : Int)) = true := by simpa using hkl
            have hk0 : (0 : Int) ≤ (k : Int) := by omega
            have hk1 : (k : Int) < (js.length : Int) := by omega
            clear k0 k1 hmi hbsk hmn hR
            cases R with
            | false =>
              have HE2 := Lib.hid (HEB.out (anyBad_mem (List.mem_of_getElem? HMI.out) HR.out))
              go_wp2_with fail
              refine (r17Right mi.t mi.a mi.c mi.b _).mono ?_
              rintro e w6 ⟨rfl, hb6⟩
              rw [HR.out]
              have HJ6 := Lib.hid (HJK.out.next hb6)
              clear hb6 d0 d1 d2 c0 c1
              obtain ⟨d0, d1, d2⟩ := HJ6.out.cells
              go_wp2_with (refine wpList_store_abs rfl 88 (.tmp 8) (.tmp 49) rfl (w.heap.size + 1) #[.int .i64 x.base, .int .i64 x.term, .slice a ms.length c] rfl rfl 88 _ HJ6.out.r1 infoRLine rfl (by simp [Value.oneCell']) ?_; intro W5 hrow5 hoth5 hb5 hs5)
              (try rw [Exit.noGoto_ret])
              refine bodyPost_ret (results_row_tmp2 rfl _ _ (w.heap.size + 1) 88 _ (0, 0) _ rfl hrow5 Try.underlying88 rfl infoRLine) rfl ?_
              exact HJ6.out.same H.out hb5 js E 0 false HE2.out
            | true =>
              have HAN := Lib.hid (anyBad_take_succ HMI.out HAK.out HR.out)
              go_wp2_with fail
              refine (r17Right mi.t mi.a mi.c mi.b _).mono ?_
              rintro e w6 ⟨rfl, hb6⟩
              rw [HR.out]
              have HJ6 := Lib.hid (HJK.out.next hb6)
              clear hb6 d0 d1 d2 c0 c1
              go_wp2
              go_roundw
              case rel => exact ⟨k + 1, by go_num, by omega, HAN.out, HJ6.out⟩
              case measure => simp [intOf]; omega
          · have hkn : k = js.length := by omega
            subst hkn
            have HNB := Lib.hid (show anyBad js = false by have h9 := HAK.out; rwa [List.take_length] at h9)
            have HE4 := Lib.hid (HE3.out HNB.out)
            clear hkl hk
            clear d0 d1 d2
            go_wp2_with fail
            obtain ⟨w7, rfl⟩ : ∃ w7 : World, w7 = wr := ⟨_, rfl⟩
            go_loopw [12] (fun kv wr => ∃ k : Nat, kv = .int .i64 k ∧ k ≤ js.length ∧ prev + (k : Int) ≤ L ∧ x.diff (prev + 1) (js.map MItem.it) = x.diff (prev + 1 + (k : Int)) ((js.drop k).map MItem.it) ∧ JB w x a ms.length c wr) (fun kv _ => js.length - (intOf kv).toNat)
            case atStart => exact ⟨0, rfl, by omega, by simpa using hpl, by simp, HJK.out⟩
            case round =>
              obtain ⟨k, rfl, hk, hub, hdf, hjk⟩ := hrel
              have HDF := Lib.hid hdf
              have HJK := Lib.hid hjk
              clear hdf hjk
              by_cases hkl : k < js.length
              · obtain ⟨mi, hmi⟩ : ∃ mi, js[k]? = some mi := ⟨_, List.getElem?_eq_getElem hkl⟩
                have hmem : mi ∈ js := List.mem_of_getElem? hmi
                have hmt : 0 ≤ mi.t := ((rightI_iff _).1 (anyBad_get HNB.out hmem)).1
                have HMI := Lib.hid hmi
                obtain ⟨b, o, hja, hb, k0, k1⟩ := HJ.out.cell hmi
                have c0 : wr.cell? ⟨b, o + k * 2, none⟩ = some (.int .i64 mi.t) := (HJK.out.bel.cell (p := ⟨b, o + k * 2, none⟩) hb).trans k0
                have HS := Lib.hid (show RJS w.heap.size x a ms.length c b (o + k * 2) mi.t wr from ⟨HJK.out.r0, HJK.out.cells.1, HJK.out.cells.2.2, c0⟩)
                have tk : decide ((k : Int) < (js.length : Int)) = true := by simpa using hkl
                have hk0 : (0 : Int) ≤ (k : Int) := by omega
                have hk1 : (k : Int) < (js.length : Int) := by omega
                have HSTEP := Lib.hid (show (prev + 1 + (k : Int) ≤ x.base ∨ x.tm (prev + 1 + (k : Int)) = mi.t) → prev + ((k + 1 : Nat) : Int) ≤ L ∧ x.diff (prev + 1) (js.map MItem.it) = x.diff (prev + 1 + ((k + 1 : Nat) : Int)) ((js.drop (k + 1)).map MItem.it) from fun h9 => by
                  constructor
                  · rcases h9 with h9 | h9
                    · omega
                    · have h10 := (hg.tm_ge (prev + 1 + (k : Int))).1 (by omega)
                      rw [HL.out] at h10
                      omega
                  · have e9 : js[k] = mi := by have h10 := HMI.out; rw [List.getElem?_eq_getElem hkl] at h10; injection h10
                    rw [HDF.out, List.drop_eq_getElem_cons hkl, e9, List.map_cons, PLine.diff_step (by simp) (by simpa using h9)]
                    rw [show prev + 1 + (k : Int) + 1 = prev + 1 + ((k + 1 : Nat) : Int) by omega]
                    rfl)
                subst hja
                have hwr := HJK.out.sz
                clear k0 k1 hmi hmem c0
                by_cases hA : prev + 1 + (k : Int) ≤ x.base
                · have tA : decide (prev + 1 + (k : Int) ≤ x.base) = true := by simpa using hA
                  have HNX := Lib.hid (HSTEP.out (.inl hA))
                  clear hA
                  go_wp2_with fail
                  refine wp_region_any (by kernel_rfl) ?_
                  refine wpAny_of_held (S := RJS w.heap.size x a ms.length c b (o + k * 2) mi.t) _ _ _ _ ?_
                  have hS0 : RJS w.heap.size x a ms.length c b (o + k * 2) mi.t wr.drew := HS.out.keep (N := wr.heap.size) (Below.refl _ _).drew (by omega) (by omega)
                  refine heldTake 0 60 rfl rfl (by kernel_rfl) (by kernel_rfl) (by kernel_rfl) (fun _ _ _ h => h) hS0 (.inl ⟨by rfl, by intro w' hS; obtain ⟨s1, s2, s3, s4⟩ := hS; go_simp; (try rfl)⟩) ?_
                  simp only [List.set_cons_zero, List.set_cons_succ]
                  refine heldTake 1 61 rfl rfl (by kernel_rfl) (by kernel_rfl) (by kernel_rfl) (fun _ _ _ h => h) hS0 (.inl ⟨by rfl, by intro w' hS; obtain ⟨s1, s2, s3, s4⟩ := hS; go_simp; (try rfl)⟩) ?_
                  simp only [List.set_cons_zero, List.set_cons_succ]
                  refine heldTake 2 62 rfl rfl (by kernel_rfl) (by kernel_rfl) (by kernel_rfl) (fun _ _ _ h => h) hS0 (.inl ⟨by rfl, by intro w' hS; obtain ⟨s1, s2, s3, s4⟩ := hS; go_simp; (try rfl)⟩) ?_
                  simp only [List.set_cons_zero, List.set_cons_succ]
                  refine heldTake 3 63 rfl rfl (by kernel_rfl) (by kernel_rfl) (by kernel_rfl) (fun _ _ _ h => h) hS0 (.inl ⟨by rfl, by intro w' hS; obtain ⟨s1, s2, s3, s4⟩ := hS; go_simp; (try rfl)⟩) ?_
                  simp only [List.set_cons_zero, List.set_cons_succ]
                  refine heldTake 4 64 rfl rfl (by kernel_rfl) (by kernel_rfl) (by kernel_rfl) (fun _ _ _ h => h) hS0 (.inl ⟨by rfl, by intro w' hS; obtain ⟨s1, s2, s3, s4⟩ := hS; go_simp; (try rfl)⟩) ?_
                  simp only [List.set_cons_zero, List.set_cons_succ]
                  refine heldTake 5 65 rfl rfl (by kernel_rfl) (by kernel_rfl) (by kernel_rfl) (fun _ _ _ h => h) hS0 (.inr ⟨by rfl, rfl⟩) ?_
                  simp only [List.set_cons_zero, List.set_cons_succ]
                  refine heldTake 6 66 rfl rfl (by kernel_rfl) (by kernel_rfl) (by kernel_rfl) (fun _ _ _ h => h) hS0 (.inr ⟨by rfl, rfl⟩) ?_
                  simp only [List.set_cons_zero, List.set_cons_succ]
                  refine heldTake 7 67 rfl rfl (by kernel_rfl) (by kernel_rfl) (by kernel_rfl) (fun _ _ _ h => h) hS0 (.inr ⟨by rfl, rfl⟩) ?_
                  simp only [List.set_cons_zero, List.set_cons_succ]
                  refine heldTake 8 68 rfl rfl (by kernel_rfl) (by kernel_rfl) (by kernel_rfl) (fun _ _ _ h => h) hS0 (.inr ⟨by rfl, rfl⟩) ?_
                  simp only [List.set_cons_zero, List.set_cons_succ]
                  refine heldTake 9 69 rfl rfl (by kernel_rfl) (by kernel_rfl) (by kernel_rfl) (fun _ _ _ h => h) hS0 (.inr ⟨by rfl, rfl⟩) ?_
                  simp only [List.set_cons_zero, List.set_cons_succ]
                  refine heldTake 10 70 rfl rfl (by kernel_rfl) (by kernel_rfl) (by kernel_rfl) (fun _ _ _ h => h) hS0 (.inr ⟨by rfl, rfl⟩) ?_
                  simp only [List.set_cons_zero, List.set_cons_succ]
                  refine heldTake 11 71 rfl rfl (by kernel_rfl) (by kernel_rfl) (by kernel_rfl) (fun _ _ _ h => h) hS0 (.inr ⟨by rfl, rfl⟩) ?_
                  simp only [List.set_cons_zero, List.set_cons_succ]
                  refine heldTake 12 72 rfl rfl (by kernel_rfl) (by kernel_rfl) (by kernel_rfl) (fun _ _ _ h => h) hS0 (.inr ⟨by rfl, rfl⟩) ?_
                  simp only [List.set_cons_zero, List.set_cons_succ]
                  refine heldTake 13 73 rfl rfl (by kernel_rfl) (by kernel_rfl) (by kernel_rfl) (fun _ _ _ h => h) hS0 (.inr ⟨by rfl, rfl⟩) ?_
                  simp only [List.set_cons_zero, List.set_cons_succ]
                  refine heldTake 14 74 rfl rfl (by kernel_rfl) (by kernel_rfl) (by kernel_rfl) (fun _ _ _ h => h) hS0 (.inl ⟨by rfl, by intro w' hS; obtain ⟨s1, s2, s3, s4⟩ := hS; go_simp; (try rfl)⟩) ?_
                  simp only [List.set_cons_zero, List.set_cons_succ]
                  refine wpAnyH_done (by kernel_rfl) ?_ _
                  clear hS0
                  have HJD := Lib.hid (HJK.out.next (show Below wr.heap.size wr wr.drew from (Below.refl _ _).drew))
                  go_wp2
                  go_roundw
                  case rel => exact ⟨k + 1, by go_num, by omega, HNX.out.1, HNX.out.2, HJD.out⟩
                  case measure => simp [intOf]; omega
                · have tA : decide (prev + 1 + (k : Int) ≤ x.base) = false := by simpa using hA
                  obtain ⟨T2, hT2⟩ : ∃ T2, x.tm (prev + 1 + (k : Int)) = T2 := ⟨_, rfl⟩
                  have HT2 := Lib.hid hT2
                  by_cases hB : T2 = mi.t
                  · have tB : (T2 == mi.t) = true := by simpa using hB
                    have HNX := Lib.hid (HSTEP.out (.inr (hT2.trans hB)))
                    clear hA hB hT2
                    go_wp2_with fail
                    refine wp_region_any (by kernel_rfl) ?_
                    refine wpAny_of_held (S := RJS w.heap.size x a ms.length c b (o + k * 2) mi.t) _ _ _ _ ?_
                    have hS0 : RJS w.heap.size x a ms.length c b (o + k * 2) mi.t wr.drew := HS.out.keep (N := wr.heap.size) (Below.refl _ _).drew (by omega) (by omega)
                    refine heldTake 0 60 rfl rfl (by kernel_rfl) (by kernel_rfl) (by kernel_rfl) (fun _ _ _ h => h) hS0 (.inl ⟨by rfl, by intro w' hS; obtain ⟨s1, s2, s3, s4⟩ := hS; go_simp; (try rfl)⟩) ?_
                    simp only [List.set_cons_zero, List.set_cons_succ]
                    refine heldTake 1 61 rfl rfl (by kernel_rfl) (by kernel_rfl) (by kernel_rfl) (fun _ _ _ h => h) hS0 (.inl ⟨by rfl, by intro w' hS; obtain ⟨s1, s2, s3, s4⟩ := hS; go_simp; (try rfl)⟩) ?_
                    simp only [List.set_cons_zero, List.set_cons_succ]
                    refine heldTake 2 62 rfl rfl (by kernel_rfl) (by kernel_rfl) (by kernel_rfl) (fun _ _ _ h => h) hS0 (.inl ⟨by rfl, by intro w' hS; obtain ⟨s1, s2, s3, s4⟩ := hS; go_simp; (try rfl)⟩) ?_
                    simp only [List.set_cons_zero, List.set_cons_succ]
                    refine heldTake 3 63 rfl rfl (by kernel_rfl) (by kernel_rfl) (by kernel_rfl) (fun _ _ _ h => h) hS0 (.inl ⟨by rfl, by intro w' hS; obtain ⟨s1, s2, s3, s4⟩ := hS; go_simp; (try rfl)⟩) ?_
                    simp only [List.set_cons_zero, List.set_cons_succ]
                    refine heldTake 4 64 rfl rfl (by kernel_rfl) (by kernel_rfl) (by kernel_rfl) (fun _ _ _ h => h) hS0 (.inl ⟨by rfl, by intro w' hS; obtain ⟨s1, s2, s3, s4⟩ := hS; go_simp; (try rfl)⟩) ?_
                    simp only [List.set_cons_zero, List.set_cons_succ]
                    refine heldTake 5 65 rfl rfl (by kernel_rfl) (by kernel_rfl) (by kernel_rfl) (fun _ _ _ h => h) hS0 (yieldsIf_load_is (by rfl) 88 (.tmp 4) rfl w.heap.size rfl 88 #[.int .i64 x.base, .int .i64 x.term, .slice a ms.length c] _ (fun _ h => h.r0) Try.underlying88 rfl infoRLine) ?_
                    simp only [List.set_cons_zero, List.set_cons_succ]
                    refine heldTake 6 66 rfl rfl (by kernel_rfl) (by kernel_rfl) (by kernel_rfl) (fun _ _ _ h => h) hS0 (.inl ⟨by rfl, by intro w' hS; obtain ⟨s1, s2, s3, s4⟩ := hS; go_simp; (try rfl)⟩) ?_
                    simp only [List.set_cons_zero, List.set_cons_succ]
                    refine heldTake 8 68 rfl rfl (by kernel_rfl) (by kernel_rfl) (by kernel_rfl) (fun _ _ _ h => h) hS0 (.inl ⟨by rfl, by intro w' hS; obtain ⟨s1, s2, s3, s4⟩ := hS; go_simp; (try rfl)⟩) ?_
                    simp only [List.set_cons_zero, List.set_cons_succ]
                    refine heldTake 9 69 rfl rfl (by kernel_rfl) (by kernel_rfl) (by kernel_rfl) (fun _ _ _ h => h) hS0 (.inl ⟨by rfl, by intro w' hS; obtain ⟨s1, s2, s3, s4⟩ := hS; go_simp; (try rfl)⟩) ?_
                    simp only [List.set_cons_zero, List.set_cons_succ]
                    refine heldTake 10 70 rfl rfl (by kernel_rfl) (by kernel_rfl) (by kernel_rfl) (fun _ _ _ h => h) hS0 (.inl ⟨by rfl, by intro w' hS; obtain ⟨s1, s2, s3, s4⟩ := hS; go_simp; (try rfl)⟩) ?_
                    simp only [List.set_cons_zero, List.set_cons_succ]
                    refine heldTake 11 71 rfl rfl (by kernel_rfl) (by kernel_rfl) (by kernel_rfl) (fun _ _ _ h => h) hS0 (.inl ⟨by rfl, by intro w' hS; obtain ⟨s1, s2, s3, s4⟩ := hS; go_simp; (try rfl)⟩) ?_
                    simp only [List.set_cons_zero, List.set_cons_succ]
                    refine heldTake 12 72 rfl rfl (by kernel_rfl) (by kernel_rfl) (by kernel_rfl) (fun _ _ _ h => h) hS0 (.inl ⟨by rfl, by intro w' hS; obtain ⟨s1, s2, s3, s4⟩ := hS; go_simp; (try rfl)⟩) ?_
                    simp only [List.set_cons_zero, List.set_cons_succ]
                    refine heldOne 7 (by kernel_rfl) rfl (by rfl) ?_
                    clear hS0
                    go_simp
                    have hdr : Below wr.heap.size wr wr.drew := (Below.refl _ _).drew
                    refine (r17At x hg a c ms (prev + 1 + (k : Int)) _ ((H.out.below (HJK.out.next hdr).bel (Nat.le_refl _)).mono (HJK.out.next hdr).bel.size)).mono ?_
                    rintro e w9 ⟨rfl, hb9⟩
                    rw [HT2.out]
                    have HJ9 := Lib.hid ((HJK.out.next hdr).next hb9)
                    have hS9 := HS.out.keep (hdr.trans hb9) (by omega) (by omega)
                    have HS9 := Lib.hid hS9
                    refine ⟨hS9, ?_⟩
                    clear hb9 hdr
                    refine heldTake 13 73 rfl rfl (by kernel_rfl) (by kernel_rfl) (by kernel_rfl) (fun _ _ _ h => h) hS9 (.inl ⟨by rfl, by intro w' hS; obtain ⟨s1, s2, s3, s4⟩ := hS; go_simp; (try rfl)⟩) ?_
                    simp only [List.set_cons_zero, List.set_cons_succ]
                    refine heldTake 14 74 rfl rfl (by kernel_rfl) (by kernel_rfl) (by kernel_rfl) (fun _ _ _ h => h) hS9 (.inl ⟨by rfl, by intro w' hS; obtain ⟨s1, s2, s3, s4⟩ := hS; go_simp; (try rfl)⟩) ?_
                    simp only [List.set_cons_zero, List.set_cons_succ]
                    refine wpAnyH_done (by kernel_rfl) ?_ _
                    clear hS9
                    go_wp2
                    go_roundw
                    case rel => exact ⟨k + 1, by go_num, by omega, HNX.out.1, HNX.out.2, HJ9.out⟩
                    case measure => simp [intOf]; omega
                  · have tB : (T2 == mi.t) = false := by simpa using hB
                    have HD2 := Lib.hid (show x.diff (prev + 1) (js.map MItem.it) = some (prev + 1 + (k : Int), (js.drop k).map MItem.it) from by
                      rw [HDF.out]
                      refine PLine.diff_stop (by simp; omega) ?_
                      have e9 : js[k] = mi := by have h10 := HMI.out; rw [List.getElem?_eq_getElem hkl] at h10; injection h10
                      rw [List.drop_eq_getElem_cons hkl, e9]
                      simp only [List.map_cons, List.getD_cons_zero]
                      rw [hT2]
                      intro h9
                      rcases h9 with h9 | h9
                      · exact hA h9
                      · exact hB h9)
                    obtain ⟨kp, hkp⟩ : ∃ kp : Nat, prev + 1 + (k : Int) - x.base - 1 = (kp : Int) := ⟨(prev + 1 + (k : Int) - x.base - 1).toNat, by omega⟩
                    have hlb9 := HLB.out
                    have hkm : kp ≤ ms.length := by omega
                    have hmc := H.out.its.sl.hle
                    have hkc : kp ≤ c := by omega
                    have HKM := Lib.hid hkm
                    have HKC := Lib.hid hkc
                    obtain ⟨n2, hn2⟩ : ∃ n2, n2 = js.length - k := ⟨_, rfl⟩
                    have HN2 := Lib.hid hn2
                    have hn2b : n2 ≤ 100000 := by omega
                    obtain ⟨f, hf⟩ : ∃ f, fitsB x ((kp : Int) + (n2 : Int)) = f := ⟨_, rfl⟩
                    have HF := Lib.hid hf
                    have HE5 := Lib.hid (show E = if fitsB x ((kp : Int) + (n2 : Int)) = true then (⟨x.base, x.term, x.l.take kp ++ (js.drop k).map MItem.it⟩, prev + 1 + (k : Int), true) else (x, 0, false) from by
                      rw [HE4.out, HD2.out]
                      simp only [List.length_map, List.length_drop]
                      rw [hkp, ← hn2, show ((kp : Int)).toNat = kp by omega]
                      (try rfl))
                    have s1 : IntKind.i64.wrap (prev + 1 + (k : Int) - x.base) = prev + 1 + (k : Int) - x.base := IntWalk.i64_in _ (by omega)
                    have wK : IntKind.i64.wrap (kp : Int) = kp := IntWalk.i64_in _ (by omega)
                    have hK0 : (0 : Int) ≤ (kp : Int) := by omega
                    have hK1 : (kp : Int) ≤ (c : Int) := by omega
                    have wk2 : IntKind.i64.wrap (k : Int) = k := IntWalk.i64_in _ (by omega)
                    have hk2 : (k : Int) ≤ (js.length : Int) := by omega
                    obtain ⟨A2, hA2⟩ : ∃ A2, (if jc = k then some (⟨b, o, none⟩ : Addr) else some ⟨b, o + k * 2, none⟩) = A2 := ⟨_, rfl⟩
                    have HSJ := Lib.hid (show ItemsAt w w.heap.size A2 n2 (jc - k) (js.drop k) from by
                      have h9 := HJ.out.from_ (k := k) (by omega)
                      rw [← hA2, hn2]
                      have e9 : (if jc = k then some (⟨b, o, none⟩ : Addr) else some ⟨b, o + k * 2, none⟩) = (if jc = k then some (⟨b, o, none⟩ : Addr) else (some (⟨b, o, none⟩ : Addr)).map (·.add (k * 2))) := by split <;> simp [Addr.add_lit]
                      rw [e9]
                      exact h9)
                    have HSU := Lib.hid (show SlAt w w.heap.size 2 a kp c (cellsM (ms.take kp)) from by
                      have h9 := H.out.its.sl.upto (k := kp) (m := c) hkm (by omega) (Nat.le_refl _)
                      rwa [cellsM_take] at h9)
                    clear hA hB hT2 hf hlb9 hmc hkm hn2 tA
                    have tA : decide (prev + 1 + (k : Int) ≤ x.base) = false := by simp; omega
                    go_wp2_with fail
                    refine wp_region_any (by kernel_rfl) ?_
                    refine wpAny_of_held (S := RJS w.heap.size x a ms.length c b (o + k * 2) mi.t) _ _ _ _ ?_
                    have hS0 : RJS w.heap.size x a ms.length c b (o + k * 2) mi.t wr.drew := HS.out.keep (N := wr.heap.size) (Below.refl _ _).drew (by omega) (by omega)
                    refine heldTake 0 60 rfl rfl (by kernel_rfl) (by kernel_rfl) (by kernel_rfl) (fun _ _ _ h => h) hS0 (.inl ⟨by rfl, by intro w' hS; obtain ⟨s1, s2, s3, s4⟩ := hS; go_simp; (try rfl)⟩) ?_
                    simp only [List.set_cons_zero, List.set_cons_succ]
                    refine heldTake 1 61 rfl rfl (by kernel_rfl) (by kernel_rfl) (by kernel_rfl) (fun _ _ _ h => h) hS0 (.inl ⟨by rfl, by intro w' hS; obtain ⟨s1, s2, s3, s4⟩ := hS; go_simp; (try rfl)⟩) ?_
                    simp only [List.set_cons_zero, List.set_cons_succ]
                    refine heldTake 2 62 rfl rfl (by kernel_rfl) (by kernel_rfl) (by kernel_rfl) (fun _ _ _ h => h) hS0 (.inl ⟨by rfl, by intro w' hS; obtain ⟨s1, s2, s3, s4⟩ := hS; go_simp; (try rfl)⟩) ?_
                    simp only [List.set_cons_zero, List.set_cons_succ]
                    refine heldTake 3 63 rfl rfl (by kernel_rfl) (by kernel_rfl) (by kernel_rfl) (fun _ _ _ h => h) hS0 (.inl ⟨by rfl, by intro w' hS; obtain ⟨s1, s2, s3, s4⟩ := hS; go_simp; (try rfl)⟩) ?_
                    simp only [List.set_cons_zero, List.set_cons_succ]
                    refine heldTake 4 64 rfl rfl (by kernel_rfl) (by kernel_rfl) (by kernel_rfl) (fun _ _ _ h => h) hS0 (.inl ⟨by rfl, by intro w' hS; obtain ⟨s1, s2, s3, s4⟩ := hS; go_simp; (try rfl)⟩) ?_
                    simp only [List.set_cons_zero, List.set_cons_succ]
                    refine heldTake 5 65 rfl rfl (by kernel_rfl) (by kernel_rfl) (by kernel_rfl) (fun _ _ _ h => h) hS0 (yieldsIf_load_is (by rfl) 88 (.tmp 4) rfl w.heap.size rfl 88 #[.int .i64 x.base, .int .i64 x.term, .slice a ms.length c] _ (fun _ h => h.r0) Try.underlying88 rfl infoRLine) ?_
                    simp only [List.set_cons_zero, List.set_cons_succ]
                    refine heldTake 6 66 rfl rfl (by kernel_rfl) (by kernel_rfl) (by kernel_rfl) (fun _ _ _ h => h) hS0 (.inl ⟨by rfl, by intro w' hS; obtain ⟨s1, s2, s3, s4⟩ := hS; go_simp; (try rfl)⟩) ?_
                    simp only [List.set_cons_zero, List.set_cons_succ]
                    refine heldTake 8 68 rfl rfl (by kernel_rfl) (by kernel_rfl) (by kernel_rfl) (fun _ _ _ h => h) hS0 (.inl ⟨by rfl, by intro w' hS; obtain ⟨s1, s2, s3, s4⟩ := hS; go_simp; (try rfl)⟩) ?_
                    simp only [List.set_cons_zero, List.set_cons_succ]
                    refine heldTake 9 69 rfl rfl (by kernel_rfl) (by kernel_rfl) (by kernel_rfl) (fun _ _ _ h => h) hS0 (.inl ⟨by rfl, by intro w' hS; obtain ⟨s1, s2, s3, s4⟩ := hS; go_simp; (try rfl)⟩) ?_
                    simp only [List.set_cons_zero, List.set_cons_succ]
                    refine heldTake 10 70 rfl rfl (by kernel_rfl) (by kernel_rfl) (by kernel_rfl) (fun _ _ _ h => h) hS0 (.inl ⟨by rfl, by intro w' hS; obtain ⟨s1, s2, s3, s4⟩ := hS; go_simp; (try rfl)⟩) ?_
                    simp only [List.set_cons_zero, List.set_cons_succ]
                    refine heldTake 11 71 rfl rfl (by kernel_rfl) (by kernel_rfl) (by kernel_rfl) (fun _ _ _ h => h) hS0 (.inl ⟨by rfl, by intro w' hS; obtain ⟨s1, s2, s3, s4⟩ := hS; go_simp; (try rfl)⟩) ?_
                    simp only [List.set_cons_zero, List.set_cons_succ]
                    refine heldTake 12 72 rfl rfl (by kernel_rfl) (by kernel_rfl) (by kernel_rfl) (fun _ _ _ h => h) hS0 (.inl ⟨by rfl, by intro w' hS; obtain ⟨s1, s2, s3, s4⟩ := hS; go_simp; (try rfl)⟩) ?_
                    simp only [List.set_cons_zero, List.set_cons_succ]
                    refine heldOne 7 (by kernel_rfl) rfl (by rfl) ?_
                    clear hS0
                    go_simp
                    have hdr : Below wr.heap.size wr wr.drew := (Below.refl _ _).drew
                    refine (r17At x hg a c ms (prev + 1 + (k : Int)) _ ((H.out.below (HJK.out.next hdr).bel (Nat.le_refl _)).mono (HJK.out.next hdr).bel.size)).mono ?_
                    rintro e w9 ⟨rfl, hb9⟩
                    rw [HT2.out]
                    have HJ9 := Lib.hid ((HJK.out.next hdr).next hb9)
                    have hS9 := HS.out.keep (hdr.trans hb9) (by omega) (by omega)
                    have HS9 := Lib.hid hS9
                    refine ⟨hS9, ?_⟩
                    clear hb9 hdr
                    refine heldTake 13 73 rfl rfl (by kernel_rfl) (by kernel_rfl) (by kernel_rfl) (fun _ _ _ h => h) hS9 (.inl ⟨by rfl, by intro w' hS; obtain ⟨s1, s2, s3, s4⟩ := hS; go_simp; (try rfl)⟩) ?_
                    simp only [List.set_cons_zero, List.set_cons_succ]
                    refine heldTake 14 74 rfl rfl (by kernel_rfl) (by kernel_rfl) (by kernel_rfl) (fun _ _ _ h => h) hS9 (.inl ⟨by rfl, by intro w' hS; obtain ⟨s1, s2, s3, s4⟩ := hS; go_simp; (try rfl)⟩) ?_
                    simp only [List.set_cons_zero, List.set_cons_succ]
                    refine wpAnyH_done (by kernel_rfl) ?_ _
                    clear hS9
                    clear hwr HSTEP
                    go_wp2_with fail
                    refine wp_region_any (by kernel_rfl) ?_
                    refine wpAny_of_held (S := RJS w.heap.size x a ms.length c b (o + k * 2) mi.t) _ _ _ _ ?_
                    obtain ⟨X, hX⟩ : ∃ X, X = w9.drew := ⟨_, rfl⟩
                    refine (show wpAnyH _ _ _ _ _ _ _ _ w9.drew from ?_)
                    rw [← hX]
                    have hs9 := HJ9.out.sz
                    have BX := Lib.hid (show Below w9.heap.size w9 X by rw [hX]; exact (Below.refl _ _).drew)
                    have qX : w9.heap.size ≤ X.heap.size := BX.out.size
                    have hSX := HS9.out.keep BX.out (by omega) (by omega)
                    clear hX
                    refine heldTake 1 76 rfl rfl (by kernel_rfl) (by kernel_rfl) (by kernel_rfl) (fun _ _ _ h => h) hSX (.inl ⟨by rfl, by intro w' hS; obtain ⟨s1, s2, s3, s4⟩ := hS; go_simp; (try rfl)⟩) ?_
                    simp only [List.set_cons_zero, List.set_cons_succ]
                    refine heldTake 2 77 rfl rfl (by kernel_rfl) (by kernel_rfl) (by kernel_rfl) (fun _ _ _ h => h) hSX (.inl ⟨by rfl, by intro w' hS; obtain ⟨s1, s2, s3, s4⟩ := hS; go_simp; (try rfl)⟩) ?_
                    simp only [List.set_cons_zero, List.set_cons_succ]
                    refine heldTake 3 78 rfl rfl (by kernel_rfl) (by kernel_rfl) (by kernel_rfl) (fun _ _ _ h => h) hSX (.inl ⟨by rfl, by intro w' hS; obtain ⟨s1, s2, s3, s4⟩ := hS; go_simp; (try rfl)⟩) ?_
                    simp only [List.set_cons_zero, List.set_cons_succ]
                    refine heldTake 4 79 rfl rfl (by kernel_rfl) (by kernel_rfl) (by kernel_rfl) (fun _ _ _ h => h) hSX (.inl ⟨by rfl, by intro w' hS; obtain ⟨s1, s2, s3, s4⟩ := hS; go_simp; (try rfl)⟩) ?_
                    simp only [List.set_cons_zero, List.set_cons_succ]
                    refine heldTake 5 80 rfl rfl (by kernel_rfl) (by kernel_rfl) (by kernel_rfl) (fun _ _ _ h => h) hSX (.inl ⟨by rfl, by intro w' hS; obtain ⟨s1, s2, s3, s4⟩ := hS; go_simp; (try rfl)⟩) ?_
                    simp only [List.set_cons_zero, List.set_cons_succ]
                    refine heldTake 6 81 rfl rfl (by kernel_rfl) (by kernel_rfl) (by kernel_rfl) (fun _ _ _ h => h) hSX (.inl ⟨by rfl, by intro w' hS; obtain ⟨s1, s2, s3, s4⟩ := hS; go_simp; (try rfl)⟩) ?_
                    simp only [List.set_cons_zero, List.set_cons_succ]
                    refine heldTake 7 82 rfl rfl (by kernel_rfl) (by kernel_rfl) (by kernel_rfl) (fun _ _ _ h => h) hSX (.inl ⟨by rfl, by intro w' hS; obtain ⟨s1, s2, s3, s4⟩ := hS; go_simp; (try rfl)⟩) ?_
                    simp only [List.set_cons_zero, List.set_cons_succ]
                    refine heldTake 8 83 rfl rfl (by kernel_rfl) (by kernel_rfl) (by kernel_rfl) (fun _ _ _ h => h) hSX (.inl ⟨by rfl, by intro w' hS; obtain ⟨s1, s2, s3, s4⟩ := hS; go_simp; (try rfl)⟩) ?_
                    simp only [List.set_cons_zero, List.set_cons_succ]
                    refine heldTake 10 85 rfl rfl (by kernel_rfl) (by kernel_rfl) (by kernel_rfl) (fun _ _ _ h => h) hSX (.inl ⟨by rfl, by intro w' hS; obtain ⟨s1, s2, s3, s4⟩ := hS; go_simp; (try rfl)⟩) ?_
                    simp only [List.set_cons_zero, List.set_cons_succ]
                    refine heldTake 11 86 rfl rfl (by kernel_rfl) (by kernel_rfl) (by kernel_rfl) (fun _ _ _ h => h) hSX (.inl ⟨by rfl, by intro w' hS; obtain ⟨s1, s2, s3, s4⟩ := hS; go_simp; (try rfl)⟩) ?_
                    simp only [List.set_cons_zero, List.set_cons_succ]
                    refine heldTake 12 87 rfl rfl (by kernel_rfl) (by kernel_rfl) (by kernel_rfl) (fun _ _ _ h => h) hSX (.inl ⟨by rfl, by intro w' hS; obtain ⟨s1, s2, s3, s4⟩ := hS; go_simp; (try rfl)⟩) ?_
                    simp only [List.set_cons_zero, List.set_cons_succ]
                    clear hSX s1 wK hK0 hK1 wk2 hk2 hA2
                    refine heldOne 0 (by kernel_rfl) rfl (by rfl) ?_
                    go_simp
                    obtain ⟨U1, hU1⟩ : ∃ z, z = X.alloc (.cells #[] 45) := ⟨_, rfl⟩
                    rw [← hU1]
                    have AU1 : Below X.heap.size X U1 := by rw [hU1]; exact (Below.refl _ _).alloc (Nat.le_refl _) _
                    have BU1 := Lib.hid (show Below w9.heap.size w9 U1 from BX.out.trans (AU1.mono qX))
                    have qU1 : w9.heap.size ≤ U1.heap.size := BU1.out.size
                    have E1 := Lib.hid (show U1.ownsRow w9.heap.size 45 2 (.slice (some ⟨X.heap.size, 0, none⟩) 0 0) 0 [] by rw [hU1]; exact ownsRow_nilT X w9.heap.size 2 qX 45)
                    clear hU1 AU1
                    refine ⟨HS9.out.keep BU1.out (by omega) (by omega), ?_⟩
                    refine heldOne 9 (by kernel_rfl) rfl (by rfl) ?_
                    refine wp_append_sl U1 (.tmp 75) (.tmp 83) 49 rfl w9.heap.size 45 i0 (.agg #[.int .i64 0, .slice none 0 0]) 2 32 Try.underlying49 hi hz0 hz1 hz2 rfl (by decide) (.slice (some ⟨X.heap.size, 0, none⟩) 0 0) 0 [] rfl E1.out U1.heap.size a kp c (cellsM (ms.take kp)) rfl ((HSU.out.below (HJ9.out.bel.trans (BU1.out.mono HJ9.out.bel.size)) (Nat.le_refl _)).mono (by omega)) (cellsM_one _) (by unfold maxLen; have := HKM.out; omega) (by have := HKM.out; omega) qU1 ?_
                    intro a2 c2 U2 o2 g2 _
                    simp only [Nat.zero_add, List.nil_append] at o2 ⊢
                    have BU2 := Lib.hid (show Below w9.heap.size w9 U2 from BU1.out.grown g2 qU1 (fun k hk => (own_lt E1.out hk).1))
                    have qU2 : w9.heap.size ≤ U2.heap.size := BU2.out.size
                    have O2 := Lib.hid o2
                    clear o2 g2
                    refine ⟨HS9.out.keep BU2.out (by omega) (by omega), ?_⟩
                    refine heldOne 13 (by kernel_rfl) rfl (by rfl) ?_
                    refine wp_append_sl U2 (.tmp 84) (.tmp 87) 49 rfl w9.heap.size 45 i0 (.agg #[.int .i64 0, .slice none 0 0]) 2 32 Try.underlying49 hi hz0 hz1 hz2 rfl (by decide) (.slice a2 kp c2) kp (cellsM (ms.take kp)) rfl O2.out U2.heap.size A2 n2 (jc - k) (cellsM (js.drop k)) (by rw [HN2.out]; rfl) ((HSJ.out.below (HJ9.out.bel.trans (BU2.out.mono HJ9.out.bel.size)) (Nat.le_refl _)).mono (by omega)).sl (cellsM_one _) (by unfold maxLen; have := HKM.out; omega) (by have := HKM.out; omega) qU2 ?_
                    intro a3 c3 U3 o3 g3 _
                    have BU3 := Lib.hid (show Below w9.heap.size w9 U3 from BU2.out.grown g3 qU2 (fun k hk => (own_lt O2.out hk).1))
                    have qU3 : w9.heap.size ≤ U3.heap.size := BU3.out.size
                    have O3 := Lib.hid o3
                    clear o3 g3
                    have hSU3 := HS9.out.keep BU3.out (by omega) (by omega)
                    refine ⟨hSU3, ?_⟩
                    go_simp
                    refine heldTake 14 14 rfl rfl (by kernel_rfl) (by kernel_rfl) (by kernel_rfl) (fun _ _ _ h => h) hSU3 (.inl ⟨by rfl, by intro w' hS; obtain ⟨s1, s2, s3, s4⟩ := hS; go_simp; (try rfl)⟩) ?_
                    simp only [List.set_cons_zero, List.set_cons_succ]
                    refine wpAnyH_done (by kernel_rfl) ?_ _
                    clear hSU3
                    have HJU := Lib.hid (HJ9.out.next BU3.out)
                    obtain ⟨d0, d1, d2⟩ := HJU.out.cells
                    go_wp2_with fail
                    refine (r17Fits x hb0 hb1 a ms.length c _ _).mono ?_
                    rintro e w10 ⟨rfl, hb10⟩
                    have hf9 := HF.out
                    rw [HF.out]
                    have HJ10 := Lib.hid (HJU.out.next hb10)
                    have HO10 := Lib.hid (own_below' O3.out hb10)
                    have BU10 := Lib.hid (BU3.out.trans (hb10.mono qU3))
                    clear hb10 d0 d1 d2 hf9
                    cases f with
                    | false =>
                      have HE2 := Lib.hid (show E = (x, 0, false) from by rw [HE5.out, HF.out]; rfl)
                      obtain ⟨d0, d1, d2⟩ := HJ10.out.cells
                      go_wp2_with (refine wpList_store_abs rfl 88 (.tmp 8) (.tmp 94) rfl (w.heap.size + 1) #[.int .i64 x.base, .int .i64 x.term, .slice a ms.length c] rfl rfl 88 _ HJ10.out.r1 infoRLine rfl (by simp [Value.oneCell']) ?_; intro W5 hrow5 hoth5 hb5 hs5)
                      (try rw [Exit.noGoto_ret])
                      refine bodyPost_ret (results_row_tmp2 rfl _ _ (w.heap.size + 1) 88 _ (0, 0) _ rfl hrow5 Try.underlying88 rfl infoRLine) rfl ?_
                      exact HJ10.out.same H.out hb5 js E 0 false HE2.out
                    | true =>
                      have HE2 := Lib.hid (show E = (⟨x.base, x.term, x.l.take kp ++ (js.drop k).map MItem.it⟩, prev + 1 + (k : Int), true) from by rw [HE5.out, HF.out]; rfl)
                      obtain ⟨d0, d1, d2⟩ := HJ10.out.cells
                      have f2 : w10.frozen? ⟨w.heap.size, 2, none⟩ = false := by simp [World.frozen?, HJ10.out.r0]
                      have HR1S := Lib.hid (show (w10.setCell ⟨w.heap.size, 2, none⟩ (.slice a3 (kp + n2) c3)).heap[w.heap.size + 1]? = some (.cells #[.int .i64 0, .int .i64 0, .slice none 0 0] 88 (0, 0)) from (Below.heap_setCell _ _ _ _ (by simp)).trans HJ10.out.r1)
                      have HOV := Lib.hid (World.ownsRow.kept HO10.out (w' := w10.setCell ⟨w.heap.size, 2, none⟩ (.slice a3 (kp + n2) c3)) (row := some w.heap.size) ⟨rfl, rfl, rfl, by simp, fun k hk hne => Below.heap_setCell _ _ _ k (fun e => hne (by rw [e]))⟩ (.inr fun e => by have h9 := (own_lt HO10.out e).1; omega))
                      have HBV := Lib.hid (show Below w.heap.size w (w10.setCell ⟨w.heap.size, 2, none⟩ (.slice a3 (kp + n2) c3)) from HJ10.out.bel.trans ⟨rfl, rfl, rfl, by simp, fun k hk => Below.heap_setCell _ _ _ k (by show k ≠ w.heap.size; omega)⟩)
                      go_wp2_with (refine wpList_store_abs rfl 88 (.tmp 8) (.tmp 97) rfl (w.heap.size + 1) #[.int .i64 x.base, .int .i64 x.term, .slice a3 (kp + n2) c3] rfl rfl 88 _ HR1S.out infoRLine rfl (by simp [Value.oneCell']) ?_; intro W5 hrow5 hoth5 hb5 hs5)
                      (try rw [Exit.noGoto_ret])
                      refine bodyPost_ret (results_row_tmp2 rfl _ _ (w.heap.size + 1) 88 _ (0, 0) _ rfl hrow5 Try.underlying88 rfl infoRLine) rfl ?_
                      have HOF := World.ownsRow.kept HOV.out (w' := W5) (row := some (w.heap.size + 1)) ⟨hb5.os, hb5.tape, hb5.output, by omega, fun k hk hne => hoth5 k (fun e => hne (by rw [e]))⟩ (.inr fun e => by have h9 := (own_lt HOV.out e).1; omega)
                      have HBF := HBV.out.trans (hb5.mono (show w.heap.size ≤ w.heap.size + 1 by omega))
                      have hkm9 := HKM.out
                      have hn9 := HN2.out
                      unfold RJoinTo
                      rw [HE2.out]
                      have hlen9 : (ms.take kp ++ js.drop k).length = kp + n2 := by simp; omega
                      have hits9 := itemsOf HOF (ms := ms.take kp ++ js.drop k) hlen9 (by rw [cellsM_append]) fun m hm => by
                        simp only [List.mem_append] at hm
                        rcases hm with hm | hm
                        · exact ((H.out.its.bs m (List.mem_of_mem_take hm)).below HBF (Nat.le_refl _)).mono HBF.size
                        · exact ((HJ.out.bs m (List.mem_of_mem_drop hm)).below HBF (Nat.le_refl _)).mono HBF.size
                      exact ⟨a3, c3, ms.take kp ++ js.drop k, by rw [hlen9]; rfl, ⟨hits9, by rw [List.map_append, List.map_take, H.out.eq]⟩, HBF, Fresh.own HOF (by have := HJ9.out.bel.size; omega), fun m hm => by
                        simp only [List.mem_append] at hm
                        rcases hm with hm | hm
                        · exact .inl (List.mem_of_mem_take hm)
                        · exact .inr (List.mem_of_mem_drop hm)⟩
              · have hkn : k = js.length := by omega
                subst hkn
                have HE2 := Lib.hid (show E = (x, 0, true) from by rw [HE4.out, HDF.out, List.drop_length]; rfl)
                clear hkl hk
                obtain ⟨d0, d1, d2⟩ := HJK.out.cells
                go_wp2_with (refine wpList_store_abs rfl 88 (.tmp 8) (.tmp 99) rfl (w.heap.size + 1) #[.int .i64 x.base, .int .i64 x.term, .slice a ms.length c] rfl rfl 88 _ HJK.out.r1 infoRLine rfl (by simp [Value.oneCell']) ?_; intro W5 hrow5 hoth5 hb5 hs5)
                (try rw [Exit.noGoto_ret])
                refine bodyPost_ret (results_row_tmp2 rfl _ _ (w.heap.size + 1) 88 _ (0, 0) _ rfl hrow5 Try.underlying88 rfl infoRLine) rfl ?_
                exact HJK.out.same H.out hb5 js E 0 true HE2.out
end Go.Proofs.Ytogcnfhmcpkdcaa
