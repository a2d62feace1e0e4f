/-
  The statement FieldWrites, its walk.
-/
import Derived.Test.YtogcnfhmcpkdcaaFields3
import Derived.Test.YtogcnfhmcpkdcaaLaw4d
import Derived.Test.YtogcnfhmcpkdcaaPenB
namespace Go.Proofs.Ytogcnfhmcpkdcaa
open Go.RowKit
set_option linter.unusedVariables false
set_option linter.unusedSimpArgs false

theorem own_penned {q : Nat} {v v' : Value} {w w' : World} {base e size n : Nat} {u : Value} {xs : List Value} (h : w.ownsRow base e size u n xs) (ht : Penned q v w w' v') (hb : q < base) (hne : ∀ g, v.ownBlock = some g → u.ownBlock ≠ some g) : w'.ownsRow base e size u n xs := by
  refine ⟨h.1, ?_⟩
  rcases h.2 with ⟨e1, hn⟩ | ⟨g, cap, cur, e1, h1, h2, h3, h4, h5, h6⟩
  · exact .inl ⟨e1, hn⟩
  · refine .inr ⟨g, cap, cur, e1, h1, (ht.block g (Array.getElem?_eq_some_iff.1 h2).1 (by omega) (fun e2 => ?_)).trans h2, h3, h4, h5, h6⟩
    exact hne g e2 (by rw [e1]; rfl)

theorem PenAt.grown {U8 : TypeId} {A B : World} {q : Nat} {v : Value} {l : List UInt8} {row : Option Nat} (h : PenAt U8 A q v l) (hg : A.grownBy B row) (hq : row ≠ some q) (hne : ∀ g, v.ownBlock = some g → row ≠ some g) : PenAt U8 B q v l :=
  ⟨Nat.lt_of_lt_of_le h.lt hg.size, (World.cell?_of_block (a := ⟨q, 0, none⟩) (hg.block q h.lt (fun e => hq e.symm))).trans h.cell, (World.frozen?_of_block (a := ⟨q, 0, none⟩) (hg.block q h.lt (fun e => hq e.symm))).trans h.free, row_grown h.own hg hne⟩

/-- the loop of the writing, at a round's head -/
structure WritesAt (ms : List MF) (w wr : World) (j : Nat) (L : List UInt8) (wa : Option Addr) (wc : Nat) (v : Value) : Prop where
  le : j ≤ ms.length
  hL : L = putF ((ms.take j).map MF.f)
  ll : L.length ≤ j * 70
  own : wr.ownsRow (w.heap.size + 1) 5 1 (.slice wa L.length wc) L.length (L.map bv)
  pen : PenAt 5 wr w.heap.size v L
  ne : ∀ g, v.ownBlock = some g → (Value.slice wa L.length wc).ownBlock ≠ some g
  bel : Below w.heap.size w wr
  sm : ∀ m ∈ ms.take j, m.f.t.length ≤ 60

theorem putF_snoc (fs : List PF) (f : PF) : putF (fs ++ [f]) = putF fs ++ f.put := by rw [putF_append]; simp [putF]

theorem PF.put_len {f : PF} (hn : f.n < 18446744073709551616) (hd : f.d.length = 32) (ht : f.t.length ≤ 60) : f.put.length ≤ 70 := by
  unfold PF.put
  split
  · have := putNum_le9 hn; omega
  · split
    · have := putNum_le9 (show f.t.length < 18446744073709551616 by omega)
      simp [putText]; omega
    · omega

set_option maxRecDepth 100000 in
set_option maxHeartbeats 16000000 in
theorem fieldWrites_calls (ms : List MF) (la : Option Addr) (lc : Nat) (w : World) (hfs : FieldsAt w w.heap.size la lc ms) :
    Calls Try.prog 8 #[.slice la ms.length lc] w fun e w' => e = .returned (.bool true) ∧ Below w.heap.size w w' := by
  obtain ⟨i0, hi, hz0, hz1, hz2⟩ := info_parts infoU8
  have HF := Lib.hid hfs
  have HZ := Lib.hid (MF.agg_size (m := ⟨⟨0, 0, [], zeros32⟩, none, 0⟩) (by simp [zeros32]))
  have hmax := hfs.sl.hle
  have hmax2 := hfs.sl.hmax
  unfold maxLen at hmax2
  clear hfs
  by_cases h12 : ms.length ≤ 12
  · have t1 : decide ((12 : Int) < (ms.length : Int)) = false := by simp; omega
    have HI0 := Lib.hid (show WritesAt ms w (w.alloc (.cells #[.slice none 0 0] 36)) 0 [] none 0 (.slice none 0 0) from
      ⟨by omega, rfl, by simp, ⟨rfl, .inl ⟨rfl, rfl⟩⟩, PenAt.fresh 5 36 w, fun g e => by simp [Value.ownBlock] at e, (Below.refl _ w).alloc (Nat.le_refl _) _, by simp⟩)
    go_enter Try.func8, Try.ntmps8
    go_wp2_with fail
    go_loopw [4, 5] (fun wv iv wr => ∃ (j : Nat) (L : List UInt8) (wa : Option Addr) (wc : Nat) (v : Value), iv = .int .i64 j ∧ wv = .slice wa L.length wc ∧ WritesAt ms w wr j L wa wc v)
      (fun _ iv _ => ms.length - (intOf iv).toNat)
    case atStart => exact ⟨0, [], none, 0, _, rfl, rfl, HI0.out⟩
    case round =>
      obtain ⟨j, L, wa, wc, v, rfl, rfl, hI⟩ := hrel
      have HI := Lib.hid hI
      have hle := hI.le
      have hll := hI.ll
      have hsz := hI.bel.size
      have hpl := hI.pen.lt
      clear hI
      by_cases hlt : j < ms.length
      · obtain ⟨m, hm⟩ : ∃ m, ms[j]? = some m := ⟨_, List.getElem?_eq_getElem hlt⟩
        have hmem : m ∈ ms := List.mem_of_getElem? hm
        obtain ⟨b, o, hla, hb, hr, hc2⟩ := HF.out.at_ hm
        subst hla
        have hbt := HI.out.bel
        have hrr : wr.rangeAt b (o + j * 35) m.cells := fun i v hv => (hbt.cell (p := ⟨b, _, none⟩) hb).trans (hr i v hv)
        have hcc : wr.cell? ⟨b, o + j * 35 + 2, none⟩ = some (.slice m.a m.f.t.length m.c) := (hbt.cell (p := ⟨b, _, none⟩) hb).trans hc2
        have HTK2 := Lib.hid (show ms.take (j + 1) = ms.take j ++ [m] by
          rw [List.take_succ_eq_append_getElem hlt]
          have : ms[j] = m := by simpa [List.getElem?_eq_getElem hlt] using hm
          rw [this])
        have htk : (ms.take (j + 1)).map MF.f = (ms.take j).map MF.f ++ [m.f] := by
          rw [List.take_succ_eq_append_getElem hlt, List.map_append]
          have : ms[j] = m := by simpa [List.getElem?_eq_getElem hlt] using hm
          simp [this]
        have hd := (HF.out.is m hmem).d32
        have hn64 := (HF.out.is m hmem).n64
        have HRR := Lib.hid hrr
        have HD := Lib.hid hd
        have HCL := Lib.hid (show m.cells.length = 35 by simp [MF.cells, hd])
        have HK := Lib.hid (MF.agg_size (m := m.kind) hd)
        have HIS := Lib.hid (HF.out.is m hmem)
        have HTK := Lib.hid htk
        have hj0 : (0 : Int) ≤ (j : Int) := by omega
        have hj1 : (j : Int) < (ms.length : Int) := by omega
        clear hr hrr hc2 hbt htk hm hd
        by_cases h60 : m.f.t.length ≤ 60
        · have t2 : decide ((60 : Int) < (m.f.t.length : Int)) = false := by simp; omega
          have HPL := Lib.hid (PF.put_len hn64 HD.out h60)
          have HSM := Lib.hid (show ∀ x ∈ ms.take (j + 1), x.f.t.length ≤ 60 from fun x hx => by
            rw [HTK2.out, List.mem_append] at hx
            rcases hx with hx | hx
            · exact HI.out.sm x hx
            · simp at hx; subst hx; exact h60)
          go_wp2_with (refine wpList_load_mid rfl 58 (.tmp 29) rfl b (o + j * 35) rfl m.cells _ HRR.out Try.underlying58 rfl (by rw [HCL.out]; exact infoField) ?_)
          refine (kindF m HD.out _).mono ?_
          rintro e w1 ⟨rfl, hb1⟩
          have hs1 := hb1.size
          have HB1 := Lib.hid hb1
          clear hb1 hcc
          go_wp2_with (first
            | (refine wpList_alloc_abs rfl 58 rfl (MF.agg ⟨⟨0, 0, [], zeros32⟩, none, 0⟩) zero_field ?_; intro W2 hrow2 hb2 hs2; have HROW2 := Lib.hid hrow2; have HB2 := Lib.hid hb2; clear hrow2 hb2)
            | (refine wpList_store_abs rfl 58 (.tmp 6) _ rfl w1.heap.size m.kind.agg rfl rfl 58 _ HROW2.out (by rw [HK.out]; exact infoField) (by rw [HK.out, HZ.out]) (MF.agg_one _) ?_; intro W3 hrow3 hoth3 hb3 hs3; have HROW3 := Lib.hid hrow3; have HB3 := Lib.hid (HB2.out.trans hb3); clear hrow3 hoth3 hb3)
            | (refine wpList_load_is rfl 58 (.tmp 6) rfl w1.heap.size rfl 58 m.kind.agg _ HROW3.out Try.underlying58 rfl (by rw [HK.out]; exact infoField) ?_))
          have hbr3 : Below wr.heap.size wr W3 := HB1.out.trans (HB3.out.mono hs1)
          have hbs3 : BsAt W3 w.heap.size m.a m.f.t.length m.c m.f.t := (HIS.out.bs (by omega)).below (HI.out.bel.trans (hbr3.mono hsz)) (Nat.le_refl _)
          have HBS3 := Lib.hid hbs3
          have HBR3 := Lib.hid hbr3
          clear hbr3
          refine (refPutAny m HD.out hn64 h60 W3 (hbs3.mono (by omega))).mono ?_
          rintro e w4 ⟨pa, pc, rfl, hown4, hb4⟩
          have hs4 := hb4.size
          have hbr4 : Below wr.heap.size wr w4 := HBR3.out.trans (hb4.mono (by omega))
          have HBR4 := Lib.hid hbr4
          have HOW4 := Lib.hid (own_below HI.out.own hbr4)
          have HPA4 := Lib.hid (HI.out.pen.below hbr4)
          have HBS4 := Lib.hid (HBS3.out.below (hb4.mono (show w.heap.size ≤ W3.heap.size by omega)) (Nat.le_refl _))
          have HROW4 := Lib.hid ((hb4.block w1.heap.size (by omega)).trans HROW3.out)
          have HSL4 := Lib.hid (own_bs hown4 (by have := HPL.out; omega)).sl
          have hpl70 := HPL.out
          clear hbs3 hown4 hb4 hbr4
          go_wp2_with (at_builtin; refine wpList_append_sl _ rfl _ _ 22 rfl (w.heap.size + 1) 5 i0 (.int .u8 0) 1 1 Try.underlying22 hi hz0 hz1 hz2 rfl (by decide) _ _ _ rfl HOW4.out w4.heap.size pa m.f.put.length pc (m.f.put.map bv) rfl HSL4.out (bvs_oneCell _) ?c1 ?c2 ?c3 ?_)
          case c1 => unfold maxLen; omega
          case c2 => omega
          case c3 => omega
          intro a5 c5 w5 hown5 hgrow5 hat5
          rw [← List.map_append, ← List.length_append] at hown5
          rw [← List.length_append] at hat5 ⊢
          have hs5 := hgrow5.size
          have hqw : (Value.slice wa L.length wc).ownBlock ≠ some w.heap.size := fun e => by have h9 := (own_lt HI.out.own e).1; omega
          have hqw1 : (Value.slice wa L.length wc).ownBlock ≠ some w1.heap.size := fun e => by have h9 := (own_lt HI.out.own e).2; omega
          have HPA5 := Lib.hid (HPA4.out.grown hgrow5 hqw (fun g e e2 => HI.out.ne g e e2))
          have HNE5 := Lib.hid (show ∀ g, v.ownBlock = some g → (Value.slice a5 (L ++ m.f.put).length c5).ownBlock ≠ some g from fun g e e2 => by
            rcases hat5 with h9 | h9
            · rw [h9] at e2; exact HI.out.ne g e e2
            · rw [h9] at e2
              injection e2 with e3
              have h10 := (own_lt HPA4.out.own e).2
              omega)
          have HROW5 := Lib.hid ((hgrow5.block w1.heap.size (by omega) (fun e => hqw1 e.symm)).trans HROW4.out)
          have HBW5 := Lib.hid ((HI.out.bel.trans (HBR4.out.mono hsz)).grown hgrow5 (by omega) (fun k hk => by have h9 := (own_lt HI.out.own hk).1; omega))
          have HBS5 := Lib.hid (show BsAt w5 w.heap.size m.a m.f.t.length m.c m.f.t from (HIS.out.bs (by omega)).below HBW5.out (Nat.le_refl _))
          have HOW5 := Lib.hid hown5
          clear hown5 hgrow5 hat5 hqw hqw1
          rcases m.f.kd_cases with hk | hk | hk
          · skip
            have hput : m.f.put = putNum m.f.n := by unfold PF.put; rw [if_pos hk]
            have hkk : m.kind.f.k = 0 := hk
            have HPUT := Lib.hid hput
            clear hk hput
            obtain ⟨c0, c1, c2, c3, -⟩ := frow_cells HROW5.out
            rw [hkk] at c0
            have C3 := Lib.hid c3
            clear hkk c3 c2
            go_wp2_with fail
            refine (penNum w.heap.size m.f.n hn64 v L (by omega) _ HPA5.out).mono ?_
            rintro e w6 ⟨rfl, v6, hpen6, hpd6⟩
            rw [← HPUT.out] at hpen6
            have HIN := Lib.hid (show WritesAt ms w w6 (j + 1) (L ++ m.f.put) a5 c5 v6 from ⟨by omega, by rw [HTK.out, putF_snoc, ← HI.out.hL], by rw [List.length_append]; have := HPL.out; omega, own_penned HOW5.out hpd6 (by omega) HNE5.out, hpen6, fun g e e2 => by
              rcases hpd6.row with h9 | ⟨g', h9, h10⟩
              · rw [h9] at e; exact HNE5.out g e e2
              · rw [h9] at e; injection e with e3; subst e3; have h11 := (own_lt HOW5.out e2).2; omega, HBW5.out.trans (hpd6.below HPA5.out (Nat.le_refl _)), HSM.out⟩)
            clear hpen6 hpd6 c0 c1
            go_wp2
            go_roundw
            case rel => exact ⟨j + 1, _, a5, c5, v6, by go_num, by rw [List.length_append], HIN.out⟩
            case measure => simp [intOf]; omega
          · skip
            have hput : m.f.put = putText m.f.t := by unfold PF.put; rw [if_neg (by omega), if_pos hk]
            have hkk : m.kind.f.k = 1 := hk
            have HPUT := Lib.hid hput
            clear hk hput
            obtain ⟨c0, c1, c2, c3, -⟩ := frow_cells HROW5.out
            rw [hkk] at c0
            have C3 := Lib.hid c3
            clear hkk c3 c1
            go_wp2_with fail
            refine (penText w.heap.size v L (by omega) m.f.t m.a m.f.t.length m.c (by omega) _ HBS5.out HPA5.out).mono ?_
            rintro e w6 ⟨rfl, v6, hpen6, hpd6⟩
            rw [← HPUT.out] at hpen6
            have HIN := Lib.hid (show WritesAt ms w w6 (j + 1) (L ++ m.f.put) a5 c5 v6 from ⟨by omega, by rw [HTK.out, putF_snoc, ← HI.out.hL], by rw [List.length_append]; have := HPL.out; omega, own_penned HOW5.out hpd6 (by omega) HNE5.out, hpen6, fun g e e2 => by
              rcases hpd6.row with h9 | ⟨g', h9, h10⟩
              · rw [h9] at e; exact HNE5.out g e e2
              · rw [h9] at e; injection e with e3; subst e3; have h11 := (own_lt HOW5.out e2).2; omega, HBW5.out.trans (hpd6.below HPA5.out (Nat.le_refl _)), HSM.out⟩)
            clear hpen6 hpd6 c0 c2
            go_wp2
            go_roundw
            case rel => exact ⟨j + 1, _, a5, c5, v6, by go_num, by rw [List.length_append], HIN.out⟩
            case measure => simp [intOf]; omega
          · skip
            have hput : m.f.put = m.f.d := by unfold PF.put; rw [if_neg (by omega), if_neg (by omega)]
            have hkk : m.kind.f.k = 2 := hk
            have HPUT := Lib.hid hput
            clear hk hput
            obtain ⟨c0, c1, c2, c3, -⟩ := frow_cells HROW5.out
            rw [hkk] at c0
            have C3 := Lib.hid c3
            clear hkk c3 c1 c2
            go_wp2_with (refine wpList_load_mid rfl 56 (.tmp 50) rfl w1.heap.size 3 rfl (m.f.d.map bv) _ C3.out Try.underlying56 rfl (by rw [List.length_map, HD.out]; exact infoId) ?_)
            refine (penId w.heap.size v L (by omega) m.f.d HD.out _ HPA5.out).mono ?_
            rintro e w6 ⟨rfl, v6, hpen6, hpd6⟩
            rw [← HPUT.out] at hpen6
            have HIN := Lib.hid (show WritesAt ms w w6 (j + 1) (L ++ m.f.put) a5 c5 v6 from ⟨by omega, by rw [HTK.out, putF_snoc, ← HI.out.hL], by rw [List.length_append]; have := HPL.out; omega, own_penned HOW5.out hpd6 (by omega) HNE5.out, hpen6, fun g e e2 => by
              rcases hpd6.row with h9 | ⟨g', h9, h10⟩
              · rw [h9] at e; exact HNE5.out g e e2
              · rw [h9] at e; injection e with e3; subst e3; have h11 := (own_lt HOW5.out e2).2; omega, HBW5.out.trans (hpd6.below HPA5.out (Nat.le_refl _)), HSM.out⟩)
            clear hpen6 hpd6 c0
            go_wp2
            go_roundw
            case rel => exact ⟨j + 1, _, a5, c5, v6, by go_num, by rw [List.length_append], HIN.out⟩
            case measure => simp [intOf]; omega
        · have t2 : decide ((60 : Int) < (m.f.t.length : Int)) = true := by simp; omega
          go_wp2_with fail
          refine (awake4 _).mono ?_
          rintro e w6 ⟨rfl, hb6⟩
          have HB6 := Lib.hid (HI.out.bel.trans (hb6.mono hsz))
          clear hb6
          go_wp2
          go_ret
          exact ⟨rfl, HB6.out⟩
      · have hj : j = ms.length := by omega
        subst hj
        have hL : L = putF (ms.map MF.f) := by rw [HI.out.hL, List.take_length]
        have HL := Lib.hid hL
        clear hL
        go_wp2_with fail
        obtain ⟨W1, hW1⟩ : ∃ W1, W1 = wr.alloc (.cells #[.slice la ms.length lc, .bool true] 78) := ⟨_, rfl⟩
        rw [← hW1]
        have hr1 : W1.heap[wr.heap.size]? = some (.cells #[.slice la ms.length lc, .bool true] 78 (0, 0)) := by rw [hW1]; exact heap_alloc_new wr _
        have hb1 : Below wr.heap.size wr W1 := by rw [hW1]; exact (Below.refl _ wr).alloc (Nat.le_refl _) _
        have hs1 : W1.heap.size = wr.heap.size + 1 := by rw [hW1]; simp
        have HR1 := Lib.hid hr1
        have HB1 := Lib.hid hb1
        have HOW1 := Lib.hid (own_below HI.out.own hb1)
        have HPA1 := Lib.hid (HI.out.pen.below hb1)
        have HF1 := Lib.hid (HF.out.below (HI.out.bel.trans (hb1.mono hsz)) (Nat.le_refl _))
        clear hW1 hr1 hb1
        have hall : ∀ m ∈ ms, m.f.t.length ≤ 60 := by
          have h9 := HI.out.sm
          rwa [List.take_length] at h9
        have HALL := Lib.hid hall
        have hbs1 : BsAt W1 W1.heap.size wa L.length wc (putF (ms.map MF.f)) := by
          rw [← HL.out]
          exact own_bs HOW1.out (by omega)
        have HBS1 := Lib.hid hbs1
        clear hall hbs1
        refine (fieldReadTo (.ok () [] : Res Unit) (sane_ok _ _) (putF (ms.map MF.f)) wa L.length wc 47 (enterOf Try.func47 (by kernel_rfl) rfl) #[.pointer (some ⟨wr.heap.size, 0, none⟩)] #[] wr.heap.size W1 (by omega) HBS1.out
          (fun w1 w' _ => w'.heap[wr.heap.size]? = w1.heap[wr.heap.size]?) ?_).mono ?_
        · intro q w1 hb hq he
          show Calls _ 47 #[.pointer (some ⟨wr.heap.size, 0, none⟩), .pointer (some ⟨q, 0, none⟩)] w1 _
          have hsb := hb.size
          refine (manyRead q wr.heap.size ms la lc w1 he (by omega) w.heap.size (by omega) h12 (HF1.out.below (hb.mono (by omega)) (Nat.le_refl _)) HALL.out ((hb.block _ (by omega)).trans HR1.out)).mono ?_
          rintro e w' ⟨rfl, hbt, hey⟩
          exact ⟨hbt.os, hbt.tape, hbt.output, hbt.size, fun k hk hkq _ => hbt.block k hk hkq, (fun _ hh => by cases hh), fun _ _ hh => by cases hh; exact ⟨rfl, hey.len, hbt.block _ (by omega) (by omega)⟩⟩
        · rintro e w2 ⟨rfl, hg, hok⟩
          obtain ⟨w1', w', rb, k1, k2, k3, k4, k5, k6⟩ := hok () rfl
          have hs2 := hg.size
          have k7 := k4.size
          have hrow2 := (k6.block wr.heap.size (by omega) (by omega)).trans (k5.trans ((k4.block _ (by omega)).trans HR1.out))
          have hc2 : w2.cell? ⟨wr.heap.size, 1, none⟩ = some (.bool true) := by rw [cell_of_row _ _ _ _ _ _ hrow2]; rfl
          have HPA2 := Lib.hid (HPA1.out.grown hg (by simp; omega) (fun g e e2 => by injection e2 with e3; have h9 := (own_lt HI.out.pen.own e).2; omega))
          have HOW2 := Lib.hid (row_grown HOW1.out hg (fun g e e2 => by injection e2 with e3; have h9 := (own_lt HI.out.own e).2; omega))
          have HBW2 := Lib.hid ((HI.out.bel.trans (HB1.out.mono hsz)).grown hg (by omega) (fun k hk => by injection hk with e3; omega))
          have HROW2 := Lib.hid hrow2
          clear hok k1 k2 k3 k4 k5 k6 k7 hg hrow2 hc2
          go_wp2_with fail
          refine (penBytes w.heap.size v L (by omega) _ HPA2.out).mono ?_
          rintro e w3 ⟨a3, c3, rfl, hbs3, hb3, -⟩
          have hs3 := hb3.size
          have HOW3 := Lib.hid (own_bs (own_below HOW2.out hb3) (by omega))
          have hrow3 := (hb3.block wr.heap.size (by omega)).trans HROW2.out
          have HBW3 := Lib.hid (HBW2.out.trans (hb3.mono (by omega)))
          have HROW3 := Lib.hid hrow3
          have HBS3 := Lib.hid hbs3
          clear hb3 hrow3 hbs3
          go_wp2_with fail
          refine (r1Bytes L L _ _ _ _ _ _ _ HBS3.out HOW3.out).mono ?_
          rintro e w4 ⟨rfl, hb4⟩
          have hs4 := hb4.size
          have hrow4 := (hb4.block wr.heap.size (by omega)).trans HROW3.out
          have hc4 : w4.cell? ⟨wr.heap.size, 1, none⟩ = some (.bool true) := by rw [cell_of_row _ _ _ _ _ _ hrow4]; rfl
          have HBW4 := Lib.hid (HBW3.out.trans (hb4.mono (by omega)))
          clear hb4 hrow4
          simp only [decide_true]
          go_wp2_with fail
          refine (awake4 _).mono ?_
          rintro e w5 ⟨rfl, hb5⟩
          have HB5 := Lib.hid (HBW4.out.trans (hb5.mono (by omega)))
          clear hb5 hc4
          go_wp2
          go_ret
          exact ⟨rfl, HB5.out⟩
  · have t1 : decide ((12 : Int) < (ms.length : Int)) = true := by simp; omega
    go_enter Try.func8, Try.ntmps8
    go_wp2_with fail
    refine (awake4 _).mono ?_
    rintro e w1 ⟨rfl, hb⟩
    go_wp2
    go_ret
    exact ⟨rfl, hb⟩
end Go.Proofs.Ytogcnfhmcpkdcaa
