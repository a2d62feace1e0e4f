/-
  The statement FieldReads, its walk.
-/
import Derived.Test.YtogcnfhmcpkdcaaFields5
import Derived.Test.YtogcnfhmcpkdcaaLaw4d
import Derived.Deep.DeepMust
namespace Go.Proofs.Ytogcnfhmcpkdcaa
open Go.RowKit
set_option linter.unusedVariables false
set_option linter.unusedSimpArgs false

theorem MF.Is.mono {w : World} {B B' : Nat} {m : MF} (h : m.Is w B) (hB : B ≤ B') : m.Is w B' := ⟨h.n64, h.d32, fun hn => (h.bs hn).mono hB⟩
theorem FieldsAt.mono {w : World} {B B' : Nat} {a : Option Addr} {c : Nat} {ms : List MF} (h : FieldsAt w B a c ms) (hB : B ≤ B') : FieldsAt w B' a c ms := ⟨h.sl.mono hB, fun m hm => (h.is m hm).mono hB⟩

/-- a slice literal is built, and its block holds these cells; the parts as a list -/
theorem wpList_buildSlice_l {P : Program} {ops : Array Oper} {rest : List Oper} {o : Oper} {a : Act} {w : World} {Q : Exit → Act → World → Prop} (hg : o.guard = none) (t e : TypeId) (len : Nat) (parts : List (Nat × Operand)) (ho : o.op = .buildSlice t len parts.toArray)
    (vals : List (Nat × Value)) (hv : parts.map (fun p => (p.1, a.eval p.2)) = vals) (hu : P.underlying t = some (.slice e)) (cells : Array Value) (hf : P.builtSlice e len vals = some cells)
    (h : wpList P ops Q rest (a.put o.dst (.slice (some ⟨w.heap.size, 0, none⟩) len len)) (w.alloc (.cells cells e))) : wpList P ops Q (o :: rest) a w :=
  Go.Great.wpList_buildSliceTo hg t e len parts.toArray ho w.heap.size rfl o.dst rfl hu cells (by rw [Array.toList_map]; exact (by rw [← hf, ← hv])) h

theorem slAt_elem (w : World) (cs : Array Value) (t : TypeId) (size : Nat) (hl : cs.size = size) : SlAt (w.alloc (.cells cs t)) (w.heap.size + 1) size (some ⟨w.heap.size, 0, none⟩) 1 1 cs.toList :=
  ⟨by simp; omega, Nat.le_refl _, by unfold maxLen; omega, fun e => by simp at e, fun _ => ⟨w.heap.size, 0, rfl, by omega, fun i hi => by
    rw [cell_of_row _ w.heap.size (0 + i) cs t (0, 0) (heap_alloc_new w _)]; simp⟩⟩

theorem infoGot3 : (Try.prog.info? 61).map (fun i => (i.zero, i.size, i.bytes)) = some (some (.agg (badCells 0)), 37, 104) := by kernel_rfl
theorem zero_got (w : World) : (zeroValue 61).run Try.prog w = .ok (.agg (badCells 0)) w := by kernel_rfl

theorem ownsRow_nil (w : World) (B : Nat) (hB : B ≤ w.heap.size) (t : TypeId) : (w.alloc (.cells #[] t)).ownsRow B t 1 (.slice (some ⟨w.heap.size, 0, none⟩) 0 0) 0 [] :=
  ⟨rfl, .inr ⟨w.heap.size, 0, #[], rfl, hB, heap_alloc_new w _, Nat.le_refl _, by unfold maxLen; omega, rfl, rfl⟩⟩

/-- the loop of FieldReads, at a round's head -/
structure RdAt (ms : List MF) (l : List UInt8) (W0 wr : World) (j : Nat) (l' : List UInt8) (e : Int) (mg : List MG) (la : Option Addr) (lc : Nat) (wa : Option Addr) (wc : Nat) : Prop where
  le : j ≤ ms.length
  lj : mg.length ≤ j
  bel : Below W0.heap.size W0 wr
  lf : BsAt wr W0.heap.size la l'.length lc l'
  own : wr.ownsRow W0.heap.size 61 37 (.slice wa mg.length wc) mg.length (cellsG mg)
  is : ∀ m ∈ mg, m.Is wr W0.heap.size
  go : e = 0 → (runF (ms.map MF.f) l).1 = mg.map MG.g ++ (runF ((ms.drop j).map MF.f) l').1 ∧ (runF (ms.map MF.f) l).2 = (runF ((ms.drop j).map MF.f) l').2 ∧ (OkF ((ms.drop j).map MF.f) l' → OkF (ms.map MF.f) l)
  no : e ≠ 0 → (runF (ms.map MF.f) l).1 = mg.map MG.g ∧ (runF (ms.map MF.f) l).2 = (e, []) ∧ OkF (ms.map MF.f) l

theorem RdAt.below {ms : List MF} {l : List UInt8} {W0 wr w' : World} {j : Nat} {l' : List UInt8} {e : Int} {mg : List MG} {la : Option Addr} {lc : Nat} {wa : Option Addr} {wc : Nat} (h : RdAt ms l W0 wr j l' e mg la lc wa wc) (hb : Below wr.heap.size wr w') : RdAt ms l W0 w' j l' e mg la lc wa wc :=
  have hs := h.bel.size
  ⟨h.le, h.lj, h.bel.trans (hb.mono hs), h.lf.below hb hs, own_below h.own hb, fun m hm => (h.is m hm).below hb hs, h.go, h.no⟩

/-- a field more was taken -/
theorem RdAt.goOn {ms : List MF} {l : List UInt8} {W0 wr w' : World} {j : Nat} {l' : List UInt8} {mg : List MG} {la : Option Addr} {lc : Nat} {wa : Option Addr} {wc : Nat} {m : MF} {mm : MG} {wa' : Option Addr} {wc' : Nat} (h : RdAt ms l W0 wr j l' 0 mg la lc wa wc)
    (hd : ms.drop j = m :: ms.drop (j + 1)) (hlt : j < ms.length) (hk : m.f.kd = 1 → m.f.n ≤ 1099511627776) (hg : m.f.take l' = mm.g) (h0 : mm.g.e = 0) (hb : Below W0.heap.size wr w') (hmm : mm.Is w' W0.heap.size)
    (hown : w'.ownsRow W0.heap.size 61 37 (.slice wa' (mg.length + 1) wc') (mg.length + 1) (cellsG mg ++ mm.cells)) : RdAt ms l W0 w' (j + 1) mm.g.left 0 (mg ++ [mm]) mm.a' mm.c' wa' wc' := by
  obtain ⟨h1, h2, h3⟩ := h.go rfl
  have hlj := h.lj
  rw [hd, List.map_cons, runF_ok (by rw [hg]; exact h0), hg] at h1 h2
  rw [hd, List.map_cons] at h3
  refine ⟨by omega, by simp; omega, h.bel.trans hb, hmm.lf, ?_, fun x hx => ?_, fun _ => ⟨?_, h2, fun h4 => h3 ⟨hk, fun _ => by rw [hg]; exact h4⟩⟩, fun hh => absurd rfl hh⟩
  · rw [cellsG_append, List.length_append]
    simpa [cellsG] using hown
  · simp at hx
    rcases hx with hx | rfl
    · exact (h.is x hx).below hb (Nat.le_refl _)
    · exact hmm
  · rw [h1, List.map_append]; simp

/-- an error was met -/
theorem RdAt.ends {ms : List MF} {l : List UInt8} {W0 wr w' : World} {j : Nat} {l' : List UInt8} {mg : List MG} {la : Option Addr} {lc : Nat} {wa : Option Addr} {wc : Nat} {m : MF} {mm : MG} (h : RdAt ms l W0 wr j l' 0 mg la lc wa wc)
    (hd : ms.drop j = m :: ms.drop (j + 1)) (hlt : j < ms.length) (hk : m.f.kd = 1 → m.f.n ≤ 1099511627776) (hg : m.f.take l' = mm.g) (h0 : mm.g.e ≠ 0) (hb : Below wr.heap.size wr w') (hmm : mm.Is w' W0.heap.size) : RdAt ms l W0 w' (j + 1) mm.g.left mm.g.e mg mm.a' mm.c' wa wc := by
  obtain ⟨h1, h2, h3⟩ := h.go rfl
  have h' := h.below hb
  have hlj := h.lj
  rw [hd, List.map_cons, runF_bad (by rw [hg]; exact h0), hg] at h1 h2
  rw [hd, List.map_cons] at h3
  refine ⟨by omega, by omega, h'.bel, hmm.lf, h'.own, h'.is, fun hh => absurd hh h0, fun _ => ⟨by rw [h1]; simp, h2, h3 ⟨hk, fun hh => absurd (by rw [← hg]; exact hh) h0⟩⟩⟩

/-- all is read -/
theorem RdAt.doneOk {ms : List MF} {l : List UInt8} {W0 wr : World} {l' : List UInt8} {mg : List MG} {la : Option Addr} {lc : Nat} {wa : Option Addr} {wc : Nat} (h : RdAt ms l W0 wr ms.length l' 0 mg la lc wa wc) :
    mg.map MG.g = (runF (ms.map MF.f) l).1 ∧ OkF (ms.map MF.f) l ∧ codeF (ms.map MF.f) l = if l' = [] then 0 else 3 := by
  obtain ⟨h1, h2, h3⟩ := h.go rfl
  rw [List.drop_length, List.map_nil] at h1 h2 h3
  simp only [runF, List.append_nil] at h1 h2
  exact ⟨h1.symm, h3 trivial, by unfold codeF; rw [h2]; simp⟩
theorem RdAt.doneBad {ms : List MF} {l : List UInt8} {W0 wr : World} {j : Nat} {l' : List UInt8} {e : Int} {mg : List MG} {la : Option Addr} {lc : Nat} {wa : Option Addr} {wc : Nat} (h : RdAt ms l W0 wr j l' e mg la lc wa wc) (he : e ≠ 0) :
    mg.map MG.g = (runF (ms.map MF.f) l).1 ∧ OkF (ms.map MF.f) l ∧ codeF (ms.map MF.f) l = e := by
  obtain ⟨h1, h2, h3⟩ := h.no he
  exact ⟨h1.symm, h3, by unfold codeF; rw [h2]; simp [he]⟩

/-- what field.Read leaves behind, told by the reading -/
theorem held_left {q p : Nat} {la : Option Addr} {n lc : Nat} {wa : Option Addr} {m wc : Nat} {fs : List PF} {l : List UInt8} {w w' : World} {e : Ending} (h : HeldEnd q p la n lc wa m wc (runF fs l).2.1 (runF fs l).2.2 w w' e) : Left q e w' (codeF fs l) := by
  unfold codeF
  by_cases h0 : (runF fs l).2.1 = 0
  · rw [if_pos h0]
    obtain ⟨h1, h2⟩ := h.good h0
    exact .inr ⟨h1, _, h2, rfl⟩
  · rw [if_neg h0]
    exact .inl ⟨h.bad h0, h0⟩

set_option maxRecDepth 100000 in
set_option maxHeartbeats 16000000 in
theorem fieldReads_calls (l : List UInt8) (a : Option Addr) (n c : Nat) (ms : List MF) (la : Option Addr) (lc : Nat) (w : World) (hn : n = l.length) (h : n ≤ 200 → BsAt w w.heap.size a n c l) (hfs : FieldsAt w w.heap.size la lc ms) :
    Calls Try.prog 6 #[.slice a n c, .slice la ms.length lc] w fun e w' => e = .returned (.bool true) ∧ Below w.heap.size w w' := by
  obtain ⟨i0, hi, hz0, hz1, hz2⟩ := info_parts infoU8
  obtain ⟨ig, gi, gz0, gz1, gz2⟩ := info_parts infoGot3
  have HF := Lib.hid hfs
  have HZ := Lib.hid (MF.agg_size (m := ⟨⟨0, 0, [], zeros32⟩, none, 0⟩) (by simp [zeros32]))
  have hmax := hfs.sl.hle
  have hmax2 := hfs.sl.hmax
  unfold maxLen at hmax2
  clear hfs
  by_cases h200 : n ≤ 200
  · have t1 : decide ((200 : Int) < (n : Int)) = false := by simp; omega
    by_cases h12 : ms.length ≤ 12
    · have t2 : decide ((12 : Int) < (ms.length : Int)) = false := by simp; omega
      have H := Lib.hid (h h200)
      subst hn
      clear h
      go_enter Try.func6, Try.ntmps6
      go_wp2_with (at_builtin; go_must (refine wpList_append_sl _ rfl _ _ 22 rfl w.heap.size 5 i0 (.int .u8 0) 1 1 Try.underlying22 hi hz0 hz1 hz2 rfl (by decide) _ 0 [] rfl (ownsRow_nil w w.heap.size (Nat.le_refl _) 5) (w.heap.size + 1) a l.length c (l.map bv) rfl ((H.out.below ((Below.refl _ w).alloc (Nat.le_refl _) _) (Nat.le_refl _)).mono (by simp)).sl (bvs_oneCell _) (by unfold maxLen; omega) (by omega) (by simp) ?_); intro a5 c5 w5 hown5 hgrow5 hat5)
      have HOW5 := Lib.hid hown5
      have HB5 := Lib.hid (((Below.refl _ w).alloc (Nat.le_refl _) (.cells #[] 5)).grown hgrow5 (by simp) (fun k hk => (own_lt (ownsRow_nil w w.heap.size (Nat.le_refl _) 5) hk).1))
      clear hown5 hgrow5 hat5
      have hown5 := HOW5.out
      simp only [Nat.zero_add, List.nil_append] at hown5
      have hlf5 := own_bs hown5 (by omega)
      have hs5 := HB5.out.size
      have HF5 := Lib.hid (HF.out.below HB5.out (Nat.le_refl _))
      have HI0 := Lib.hid (show RdAt ms l w5 w5 0 l 0 [] a5 c5 none 0 from ⟨by omega, by simp, Below.refl _ _, hlf5, ⟨rfl, .inl ⟨rfl, rfl⟩⟩, by simp, fun _ => ⟨by simp, by simp, fun h9 => by simpa using h9⟩, fun h9 => absurd rfl h9⟩)
      clear hown5 hlf5

      go_loopw [5, 6, 7, 8] (fun lv wv ev iv wr => ∃ (j : Nat) (l' : List UInt8) (e : Int) (mg : List MG) (la' : Option Addr) (lc' : Nat) (wa : Option Addr) (wc : Nat), iv = .int .i64 j ∧ lv = .slice la' l'.length lc' ∧ wv = .slice wa mg.length wc ∧ ev = .int .i64 e ∧ RdAt ms l w5 wr j l' e mg la' lc' wa wc)
        (fun _ _ _ iv _ => ms.length - (intOf iv).toNat)
      case atStart => exact ⟨0, l, 0, [], a5, c5, none, 0, rfl, rfl, rfl, rfl, HI0.out⟩
      case round =>
        obtain ⟨j, l', e, mg, la', lc', wa, wc, rfl, rfl, rfl, rfl, hI⟩ := hrel
        have HI := Lib.hid hI
        have hle := hI.le
        have hlj := hI.lj
        have hsz := hI.bel.size
        clear hI
        by_cases he : e = 0
        · by_cases hlt : j < ms.length
          · subst he
            obtain ⟨m, hm⟩ : ∃ m, ms[j]? = some m := ⟨_, List.getElem?_eq_getElem hlt⟩
            have hmem : m ∈ ms := List.mem_of_getElem? hm
            obtain ⟨b, o, hla, hb, hr, -⟩ := HF5.out.at_ hm
            subst hla
            have hrr : wr.rangeAt b (o + j * 35) m.cells := fun i v hv => (HI.out.bel.cell (p := ⟨b, _, none⟩) (by show b < _; omega)).trans (hr i v hv)
            have hdr : ms.drop j = m :: ms.drop (j + 1) := by
              rw [List.drop_eq_getElem_cons hlt]; congr 1; simpa [List.getElem?_eq_getElem hlt] using hm
            have hd := (HF5.out.is m hmem).d32
            have hn64 := (HF5.out.is m hmem).n64
            have HRR := Lib.hid hrr
            have HD := Lib.hid hd
            have HCL := Lib.hid (show m.cells.length = 35 by simp [MF.cells, hd])
            have HK := Lib.hid (MF.agg_size (m := m.kind) hd)
            have HDR := Lib.hid hdr
            have hj0 : (0 : Int) ≤ (j : Int) := by omega
            have hj1 : (j : Int) < (ms.length : Int) := by omega
            clear hr hrr hdr hm hd
            go_wp2_with (refine wpList_load_mid rfl 58 (.tmp 37) rfl b (o + j * 35) rfl m.cells _ HRR.out Try.underlying58 rfl (by rw [HCL.out]; exact infoField) ?_)
            refine (kindF m HD.out _).mono ?_
            rintro e w1 ⟨rfl, hb1⟩
            have hs1 := hb1.size
            have HB1 := Lib.hid hb1
            clear hb1
            obtain ⟨kd, hkd⟩ : ∃ kd, kd = m.f.kd := ⟨_, rfl⟩
            have HKD := Lib.hid hkd
            have hkc : kd = 0 ∨ (kd = 1 ∧ m.f.n ≤ 1099511627776) ∨ kd = 2 ∨ (kd = 1 ∧ 1099511627776 < m.f.n) := by
              rw [hkd]
              have := m.f.kd_cases
              omega
            clear hkd
            rcases hkc with hk | ⟨hk, hnb⟩ | hk | ⟨hk, hnb⟩
            · skip
              have HKB := Lib.hid (show m.f.kd = 1 → m.f.n ≤ 1099511627776 from fun h9 => by have h10 := HKD.out; omega)
              have HKM := Lib.hid (show m.kind.f.k = kd from HKD.out.symm)
              have HKK := Lib.hid hk
              subst hk
              go_wp2_with (first
                | (refine wpList_alloc_abs rfl 58 rfl (MF.agg ⟨⟨0, 0, [], zeros32⟩, none, 0⟩) zero_field ?_; intro W2 hrow2 hb2 hs2; have HROW2 := Lib.hid hrow2; have HB2 := Lib.hid hb2; clear hrow2 hb2)
                | (refine wpList_store_abs rfl 58 (.tmp 9) _ rfl w1.heap.size m.kind.agg rfl rfl 58 _ HROW2.out (by rw [HK.out]; exact infoField) (by rw [HK.out, HZ.out]) (MF.agg_one _) ?_; intro W3 hrow3 hoth3 hb3 hs3; have HROW3 := Lib.hid hrow3; obtain ⟨c0, c1, -, -, -⟩ := frow_cells hrow3; rw [HKM.out] at c0; change W3.cell? ⟨w1.heap.size, 1, none⟩ = some (.int .u64 m.f.n) at c1; have HB3 := Lib.hid (HB2.out.trans hb3); clear hrow3 hoth3 hb3 c1)
                | (refine wpList_load_is rfl 58 (.tmp 9) rfl w1.heap.size rfl 58 m.kind.agg _ HROW3.out Try.underlying58 rfl (by rw [HK.out]; exact infoField) ?_))
              have HBR3 := Lib.hid (show Below wr.heap.size wr W3 from HB1.out.trans (HB3.out.mono (by omega)))
              have HI3 := Lib.hid (HI.out.below HBR3.out)
              clear c0
              refine (refTake m.kind.f.k l' la' l'.length lc' (.slice m.a m.f.t.length m.c :: m.f.d.map bv) m.f.n (by simp [HD.out]) W3 w5.heap.size (by omega) HI3.out.lf).mono ?_
              rintro e w4 ⟨gs, rfl, hgs, hb4⟩
              have hs4 := hb4.size
              obtain ⟨G, hG⟩ : ∃ G, G = m.f.take l' := ⟨_, rfl⟩
              have hgs2 : GotIs w4 w5.heap.size gs G := by rw [hG]; exact hgs
              have hGd : G.d.length = 32 := by rw [hG]; exact takeP_d _ _ _
              have HGD := Lib.hid hGd
              have HG := Lib.hid hG
              obtain ⟨hz4, hone4⟩ := hgs2.parts hGd
              obtain ⟨ga, gc, ga', gc', hgs3, hgt, hgl⟩ := hgs2
              have HGS := Lib.hid hgs3
              have HGT := Lib.hid hgt
              have HGL := Lib.hid hgl
              have HZ4 := Lib.hid hz4
              have HONE4 := Lib.hid hone4
              have HBR4 := Lib.hid (HBR3.out.trans (hb4.mono (by omega)))
              have HI4 := Lib.hid (HI.out.below HBR4.out)
              clear hgs hgs3 hgt hgl hz4 hone4 hb4 hG hGd
              by_cases hG0 : G.e = 0
              · have t3 : (G.e == 0) = true := by simpa using hG0
                have HG0 := Lib.hid hG0
                clear hG0
                go_wp2_with (first
                  | (refine wpList_alloc_abs rfl 61 rfl (badCells 0) zero_got ?_; intro W6 hrow6 hb6 hs6; have HROW6 := Lib.hid hrow6; have HB6 := Lib.hid hb6; clear hrow6 hb6)
                  | (refine wpList_store_abs rfl 61 (.tmp 10) _ rfl w4.heap.size gs rfl rfl 61 _ HROW6.out (by rw [HZ4.out]; exact infoGot) (by rw [HZ4.out]; rfl) HONE4.out ?_; intro W7 hrow7 hoth7 hb7 hs7; have HROW7 := Lib.hid hrow7; have HB7 := Lib.hid (HB6.out.trans hb7); have HOW7 := Lib.hid ((own_below HI4.out.own HB7.out).alloc (.cells gs 61)); have d1 : W7.cell? ⟨w4.heap.size, 35, none⟩ = some (.int .i64 G.e) := (by rw [cell_of_row _ _ _ _ _ _ hrow7, HGS.out, List.getElem?_toArray]; exact gotCells_e _ _ _ _ _ _ HGD.out); have d2 : W7.cell? ⟨w4.heap.size, 36, none⟩ = some (.slice ga' G.left.length gc') := (by rw [cell_of_row _ _ _ _ _ _ hrow7, HGS.out, List.getElem?_toArray]; exact gotCells_l _ _ _ _ _ _ HGD.out); clear hrow7 hoth7 hb7)
                  | (refine wpList_load_is rfl 61 (.tmp 10) rfl w4.heap.size rfl 61 gs _ HROW7.out Try.underlying61 rfl (by rw [HZ4.out]; exact infoGot) ?_)
                  | (refine wpList_buildSlice_l rfl 54 61 1 [(0, .tmp 59)] rfl [(0, .agg gs)] rfl Try.underlying54 gs (builtSlice_got gs HZ4.out) ?_; clear d1 d2)
                  | (at_builtin; refine wpList_append_sl _ rfl (.tmp 58) (.tmp 60) 54 rfl w5.heap.size 61 ig (.agg (badCells 0)) 37 104 Try.underlying54 gi gz0 gz1 gz2 rfl (by decide) _ _ _ rfl HOW7.out (W7.heap.size + 1) (some ⟨W7.heap.size, 0, none⟩) 1 1 gs.toList rfl (slAt_elem W7 gs 61 37 HZ4.out) (fun u hu => (Array.all_eq_true_iff_forall_mem.1 HONE4.out) u (by simpa using hu)) (by unfold maxLen; omega) (by omega) (by simp; omega) ?_; intro a8 c8 w8 hown8 hgrow8 hat8; have HOW8 := Lib.hid hown8; have HGR8 := Lib.hid hgrow8; clear hown8 hgrow8 hat8))
                have hmc : (MG.mk G ga gc ga' gc').cells = gs.toList := by rw [HGS.out]; rfl
                have hb8 : Below w5.heap.size wr w8 := ((HBR4.out.trans (HB7.out.mono (by omega))).mono hsz).trans ((((Below.refl _ W7).alloc (show w5.heap.size ≤ W7.heap.size by omega) (.cells gs 61))).grown HGR8.out (by simp; omega) (fun k hk => (own_lt HI.out.own hk).1))
                have hb48 : Below w5.heap.size w4 w8 := (HB7.out.mono (by omega)).trans ((((Below.refl _ W7).alloc (show w5.heap.size ≤ W7.heap.size by omega) (.cells gs 61))).grown HGR8.out (by simp; omega) (fun k hk => (own_lt HI.out.own hk).1))
                have HIN := Lib.hid (HI.out.goOn (mm := ⟨G, ga, gc, ga', gc'⟩) HDR.out hlt HKB.out HG.out.symm HG0.out hb8 ⟨HGD.out, HGT.out.below hb48 (Nat.le_refl _), HGL.out.below hb48 (Nat.le_refl _)⟩ (by rw [hmc]; exact HOW8.out))
                clear hb8 hb48 hmc
                rw [HG0.out]
                go_wp2
                go_roundw
                case rel => exact ⟨j + 1, G.left, 0, mg ++ [⟨G, ga, gc, ga', gc'⟩], ga', gc', a8, c8, by go_num, rfl, by rw [List.length_append]; rfl, rfl, HIN.out⟩
                case measure => simp [intOf]; omega
              · have t3 : (G.e == 0) = false := by simpa using hG0
                have HG0 := Lib.hid hG0
                clear hG0
                go_wp2_with (first
                  | (refine wpList_alloc_abs rfl 61 rfl (badCells 0) zero_got ?_; intro W6 hrow6 hb6 hs6; have HROW6 := Lib.hid hrow6; have HB6 := Lib.hid hb6; clear hrow6 hb6)
                  | (refine wpList_store_abs rfl 61 (.tmp 10) _ rfl w4.heap.size gs rfl rfl 61 _ HROW6.out (by rw [HZ4.out]; exact infoGot) (by rw [HZ4.out]; rfl) HONE4.out ?_; intro W7 hrow7 hoth7 hb7 hs7; have HB7 := Lib.hid (HB6.out.trans hb7); have HIN := Lib.hid (HI.out.ends (mm := ⟨G, ga, gc, ga', gc'⟩) HDR.out hlt HKB.out HG.out.symm HG0.out (HBR4.out.trans (HB7.out.mono (by omega))) ⟨HGD.out, HGT.out.below (HB7.out.mono (show w5.heap.size ≤ w4.heap.size by omega)) (Nat.le_refl _), HGL.out.below (HB7.out.mono (show w5.heap.size ≤ w4.heap.size by omega)) (Nat.le_refl _)⟩); have d1 : W7.cell? ⟨w4.heap.size, 35, none⟩ = some (.int .i64 G.e) := (by rw [cell_of_row _ _ _ _ _ _ hrow7, HGS.out, List.getElem?_toArray]; exact gotCells_e _ _ _ _ _ _ HGD.out); have d2 : W7.cell? ⟨w4.heap.size, 36, none⟩ = some (.slice ga' G.left.length gc') := (by rw [cell_of_row _ _ _ _ _ _ hrow7, HGS.out, List.getElem?_toArray]; exact gotCells_l _ _ _ _ _ _ HGD.out); clear hrow7 hoth7 hb7))
                go_roundw
                case rel => exact ⟨j + 1, G.left, G.e, mg, ga', gc', wa, wc, by go_num, rfl, rfl, rfl, HIN.out⟩
                case measure => simp [intOf]; omega
            · skip
              have HKB := Lib.hid (show m.f.kd = 1 → m.f.n ≤ 1099511627776 from fun h9 => by have h10 := HKD.out; omega)
              have HKM := Lib.hid (show m.kind.f.k = kd from HKD.out.symm)
              have HKK := Lib.hid hk
              subst hk
              have tb : decide ((1099511627776 : Int) < (m.f.n : Int)) = false := by simp; omega
              clear hnb
              go_wp2_with (first
                | (refine wpList_alloc_abs rfl 58 rfl (MF.agg ⟨⟨0, 0, [], zeros32⟩, none, 0⟩) zero_field ?_; intro W2 hrow2 hb2 hs2; have HROW2 := Lib.hid hrow2; have HB2 := Lib.hid hb2; clear hrow2 hb2)
                | (refine wpList_store_abs rfl 58 (.tmp 9) _ rfl w1.heap.size m.kind.agg rfl rfl 58 _ HROW2.out (by rw [HK.out]; exact infoField) (by rw [HK.out, HZ.out]) (MF.agg_one _) ?_; intro W3 hrow3 hoth3 hb3 hs3; have HROW3 := Lib.hid hrow3; obtain ⟨c0, c1, -, -, -⟩ := frow_cells hrow3; rw [HKM.out] at c0; change W3.cell? ⟨w1.heap.size, 1, none⟩ = some (.int .u64 m.f.n) at c1; have HB3 := Lib.hid (HB2.out.trans hb3); clear hrow3 hoth3 hb3)
                | (refine wpList_load_is rfl 58 (.tmp 9) rfl w1.heap.size rfl 58 m.kind.agg _ HROW3.out Try.underlying58 rfl (by rw [HK.out]; exact infoField) ?_))
              have HBR3 := Lib.hid (show Below wr.heap.size wr W3 from HB1.out.trans (HB3.out.mono (by omega)))
              have HI3 := Lib.hid (HI.out.below HBR3.out)
              clear c0 c1
              refine (refTake m.kind.f.k l' la' l'.length lc' (.slice m.a m.f.t.length m.c :: m.f.d.map bv) m.f.n (by simp [HD.out]) W3 w5.heap.size (by omega) HI3.out.lf).mono ?_
              rintro e w4 ⟨gs, rfl, hgs, hb4⟩
              have hs4 := hb4.size
              obtain ⟨G, hG⟩ : ∃ G, G = m.f.take l' := ⟨_, rfl⟩
              have hgs2 : GotIs w4 w5.heap.size gs G := by rw [hG]; exact hgs
              have hGd : G.d.length = 32 := by rw [hG]; exact takeP_d _ _ _
              have HGD := Lib.hid hGd
              have HG := Lib.hid hG
              obtain ⟨hz4, hone4⟩ := hgs2.parts hGd
              obtain ⟨ga, gc, ga', gc', hgs3, hgt, hgl⟩ := hgs2
              have HGS := Lib.hid hgs3
              have HGT := Lib.hid hgt
              have HGL := Lib.hid hgl
              have HZ4 := Lib.hid hz4
              have HONE4 := Lib.hid hone4
              have HBR4 := Lib.hid (HBR3.out.trans (hb4.mono (by omega)))
              have HI4 := Lib.hid (HI.out.below HBR4.out)
              clear hgs hgs3 hgt hgl hz4 hone4 hb4 hG hGd
              by_cases hG0 : G.e = 0
              · have t3 : (G.e == 0) = true := by simpa using hG0
                have HG0 := Lib.hid hG0
                clear hG0
                go_wp2_with (first
                  | (refine wpList_alloc_abs rfl 61 rfl (badCells 0) zero_got ?_; intro W6 hrow6 hb6 hs6; have HROW6 := Lib.hid hrow6; have HB6 := Lib.hid hb6; clear hrow6 hb6)
                  | (refine wpList_store_abs rfl 61 (.tmp 10) _ rfl w4.heap.size gs rfl rfl 61 _ HROW6.out (by rw [HZ4.out]; exact infoGot) (by rw [HZ4.out]; rfl) HONE4.out ?_; intro W7 hrow7 hoth7 hb7 hs7; have HROW7 := Lib.hid hrow7; have HB7 := Lib.hid (HB6.out.trans hb7); have HOW7 := Lib.hid ((own_below HI4.out.own HB7.out).alloc (.cells gs 61)); have d1 : W7.cell? ⟨w4.heap.size, 35, none⟩ = some (.int .i64 G.e) := (by rw [cell_of_row _ _ _ _ _ _ hrow7, HGS.out, List.getElem?_toArray]; exact gotCells_e _ _ _ _ _ _ HGD.out); have d2 : W7.cell? ⟨w4.heap.size, 36, none⟩ = some (.slice ga' G.left.length gc') := (by rw [cell_of_row _ _ _ _ _ _ hrow7, HGS.out, List.getElem?_toArray]; exact gotCells_l _ _ _ _ _ _ HGD.out); clear hrow7 hoth7 hb7)
                  | (refine wpList_load_is rfl 61 (.tmp 10) rfl w4.heap.size rfl 61 gs _ HROW7.out Try.underlying61 rfl (by rw [HZ4.out]; exact infoGot) ?_)
                  | (refine wpList_buildSlice_l rfl 54 61 1 [(0, .tmp 59)] rfl [(0, .agg gs)] rfl Try.underlying54 gs (builtSlice_got gs HZ4.out) ?_; clear d1 d2)
                  | (at_builtin; refine wpList_append_sl _ rfl (.tmp 58) (.tmp 60) 54 rfl w5.heap.size 61 ig (.agg (badCells 0)) 37 104 Try.underlying54 gi gz0 gz1 gz2 rfl (by decide) _ _ _ rfl HOW7.out (W7.heap.size + 1) (some ⟨W7.heap.size, 0, none⟩) 1 1 gs.toList rfl (slAt_elem W7 gs 61 37 HZ4.out) (fun u hu => (Array.all_eq_true_iff_forall_mem.1 HONE4.out) u (by simpa using hu)) (by unfold maxLen; omega) (by omega) (by simp; omega) ?_; intro a8 c8 w8 hown8 hgrow8 hat8; have HOW8 := Lib.hid hown8; have HGR8 := Lib.hid hgrow8; clear hown8 hgrow8 hat8))
                have hmc : (MG.mk G ga gc ga' gc').cells = gs.toList := by rw [HGS.out]; rfl
                have hb8 : Below w5.heap.size wr w8 := ((HBR4.out.trans (HB7.out.mono (by omega))).mono hsz).trans ((((Below.refl _ W7).alloc (show w5.heap.size ≤ W7.heap.size by omega) (.cells gs 61))).grown HGR8.out (by simp; omega) (fun k hk => (own_lt HI.out.own hk).1))
                have hb48 : Below w5.heap.size w4 w8 := (HB7.out.mono (by omega)).trans ((((Below.refl _ W7).alloc (show w5.heap.size ≤ W7.heap.size by omega) (.cells gs 61))).grown HGR8.out (by simp; omega) (fun k hk => (own_lt HI.out.own hk).1))
                have HIN := Lib.hid (HI.out.goOn (mm := ⟨G, ga, gc, ga', gc'⟩) HDR.out hlt HKB.out HG.out.symm HG0.out hb8 ⟨HGD.out, HGT.out.below hb48 (Nat.le_refl _), HGL.out.below hb48 (Nat.le_refl _)⟩ (by rw [hmc]; exact HOW8.out))
                clear hb8 hb48 hmc
                rw [HG0.out]
                go_wp2
                go_roundw
                case rel => exact ⟨j + 1, G.left, 0, mg ++ [⟨G, ga, gc, ga', gc'⟩], ga', gc', a8, c8, by go_num, rfl, by rw [List.length_append]; rfl, rfl, HIN.out⟩
                case measure => simp [intOf]; omega
              · have t3 : (G.e == 0) = false := by simpa using hG0
                have HG0 := Lib.hid hG0
                clear hG0
                go_wp2_with (first
                  | (refine wpList_alloc_abs rfl 61 rfl (badCells 0) zero_got ?_; intro W6 hrow6 hb6 hs6; have HROW6 := Lib.hid hrow6; have HB6 := Lib.hid hb6; clear hrow6 hb6)
                  | (refine wpList_store_abs rfl 61 (.tmp 10) _ rfl w4.heap.size gs rfl rfl 61 _ HROW6.out (by rw [HZ4.out]; exact infoGot) (by rw [HZ4.out]; rfl) HONE4.out ?_; intro W7 hrow7 hoth7 hb7 hs7; have HB7 := Lib.hid (HB6.out.trans hb7); have HIN := Lib.hid (HI.out.ends (mm := ⟨G, ga, gc, ga', gc'⟩) HDR.out hlt HKB.out HG.out.symm HG0.out (HBR4.out.trans (HB7.out.mono (by omega))) ⟨HGD.out, HGT.out.below (HB7.out.mono (show w5.heap.size ≤ w4.heap.size by omega)) (Nat.le_refl _), HGL.out.below (HB7.out.mono (show w5.heap.size ≤ w4.heap.size by omega)) (Nat.le_refl _)⟩); have d1 : W7.cell? ⟨w4.heap.size, 35, none⟩ = some (.int .i64 G.e) := (by rw [cell_of_row _ _ _ _ _ _ hrow7, HGS.out, List.getElem?_toArray]; exact gotCells_e _ _ _ _ _ _ HGD.out); have d2 : W7.cell? ⟨w4.heap.size, 36, none⟩ = some (.slice ga' G.left.length gc') := (by rw [cell_of_row _ _ _ _ _ _ hrow7, HGS.out, List.getElem?_toArray]; exact gotCells_l _ _ _ _ _ _ HGD.out); clear hrow7 hoth7 hb7))
                go_roundw
                case rel => exact ⟨j + 1, G.left, G.e, mg, ga', gc', wa, wc, by go_num, rfl, rfl, rfl, HIN.out⟩
                case measure => simp [intOf]; omega
            · skip
              have HKB := Lib.hid (show m.f.kd = 1 → m.f.n ≤ 1099511627776 from fun h9 => by have h10 := HKD.out; omega)
              have HKM := Lib.hid (show m.kind.f.k = kd from HKD.out.symm)
              have HKK := Lib.hid hk
              subst hk
              go_wp2_with (first
                | (refine wpList_alloc_abs rfl 58 rfl (MF.agg ⟨⟨0, 0, [], zeros32⟩, none, 0⟩) zero_field ?_; intro W2 hrow2 hb2 hs2; have HROW2 := Lib.hid hrow2; have HB2 := Lib.hid hb2; clear hrow2 hb2)
                | (refine wpList_store_abs rfl 58 (.tmp 9) _ rfl w1.heap.size m.kind.agg rfl rfl 58 _ HROW2.out (by rw [HK.out]; exact infoField) (by rw [HK.out, HZ.out]) (MF.agg_one _) ?_; intro W3 hrow3 hoth3 hb3 hs3; have HROW3 := Lib.hid hrow3; obtain ⟨c0, c1, -, -, -⟩ := frow_cells hrow3; rw [HKM.out] at c0; change W3.cell? ⟨w1.heap.size, 1, none⟩ = some (.int .u64 m.f.n) at c1; have HB3 := Lib.hid (HB2.out.trans hb3); clear hrow3 hoth3 hb3 c1)
                | (refine wpList_load_is rfl 58 (.tmp 9) rfl w1.heap.size rfl 58 m.kind.agg _ HROW3.out Try.underlying58 rfl (by rw [HK.out]; exact infoField) ?_))
              have HBR3 := Lib.hid (show Below wr.heap.size wr W3 from HB1.out.trans (HB3.out.mono (by omega)))
              have HI3 := Lib.hid (HI.out.below HBR3.out)
              clear c0
              refine (refTake m.kind.f.k l' la' l'.length lc' (.slice m.a m.f.t.length m.c :: m.f.d.map bv) m.f.n (by simp [HD.out]) W3 w5.heap.size (by omega) HI3.out.lf).mono ?_
              rintro e w4 ⟨gs, rfl, hgs, hb4⟩
              have hs4 := hb4.size
              obtain ⟨G, hG⟩ : ∃ G, G = m.f.take l' := ⟨_, rfl⟩
              have hgs2 : GotIs w4 w5.heap.size gs G := by rw [hG]; exact hgs
              have hGd : G.d.length = 32 := by rw [hG]; exact takeP_d _ _ _
              have HGD := Lib.hid hGd
              have HG := Lib.hid hG
              obtain ⟨hz4, hone4⟩ := hgs2.parts hGd
              obtain ⟨ga, gc, ga', gc', hgs3, hgt, hgl⟩ := hgs2
              have HGS := Lib.hid hgs3
              have HGT := Lib.hid hgt
              have HGL := Lib.hid hgl
              have HZ4 := Lib.hid hz4
              have HONE4 := Lib.hid hone4
              have HBR4 := Lib.hid (HBR3.out.trans (hb4.mono (by omega)))
              have HI4 := Lib.hid (HI.out.below HBR4.out)
              clear hgs hgs3 hgt hgl hz4 hone4 hb4 hG hGd
              by_cases hG0 : G.e = 0
              · have t3 : (G.e == 0) = true := by simpa using hG0
                have HG0 := Lib.hid hG0
                clear hG0
                go_wp2_with (first
                  | (refine wpList_alloc_abs rfl 61 rfl (badCells 0) zero_got ?_; intro W6 hrow6 hb6 hs6; have HROW6 := Lib.hid hrow6; have HB6 := Lib.hid hb6; clear hrow6 hb6)
                  | (refine wpList_store_abs rfl 61 (.tmp 10) _ rfl w4.heap.size gs rfl rfl 61 _ HROW6.out (by rw [HZ4.out]; exact infoGot) (by rw [HZ4.out]; rfl) HONE4.out ?_; intro W7 hrow7 hoth7 hb7 hs7; have HROW7 := Lib.hid hrow7; have HB7 := Lib.hid (HB6.out.trans hb7); have HOW7 := Lib.hid ((own_below HI4.out.own HB7.out).alloc (.cells gs 61)); have d1 : W7.cell? ⟨w4.heap.size, 35, none⟩ = some (.int .i64 G.e) := (by rw [cell_of_row _ _ _ _ _ _ hrow7, HGS.out, List.getElem?_toArray]; exact gotCells_e _ _ _ _ _ _ HGD.out); have d2 : W7.cell? ⟨w4.heap.size, 36, none⟩ = some (.slice ga' G.left.length gc') := (by rw [cell_of_row _ _ _ _ _ _ hrow7, HGS.out, List.getElem?_toArray]; exact gotCells_l _ _ _ _ _ _ HGD.out); clear hrow7 hoth7 hb7)
                  | (refine wpList_load_is rfl 61 (.tmp 10) rfl w4.heap.size rfl 61 gs _ HROW7.out Try.underlying61 rfl (by rw [HZ4.out]; exact infoGot) ?_)
                  | (refine wpList_buildSlice_l rfl 54 61 1 [(0, .tmp 59)] rfl [(0, .agg gs)] rfl Try.underlying54 gs (builtSlice_got gs HZ4.out) ?_; clear d1 d2)
                  | (at_builtin; refine wpList_append_sl _ rfl (.tmp 58) (.tmp 60) 54 rfl w5.heap.size 61 ig (.agg (badCells 0)) 37 104 Try.underlying54 gi gz0 gz1 gz2 rfl (by decide) _ _ _ rfl HOW7.out (W7.heap.size + 1) (some ⟨W7.heap.size, 0, none⟩) 1 1 gs.toList rfl (slAt_elem W7 gs 61 37 HZ4.out) (fun u hu => (Array.all_eq_true_iff_forall_mem.1 HONE4.out) u (by simpa using hu)) (by unfold maxLen; omega) (by omega) (by simp; omega) ?_; intro a8 c8 w8 hown8 hgrow8 hat8; have HOW8 := Lib.hid hown8; have HGR8 := Lib.hid hgrow8; clear hown8 hgrow8 hat8))
                have hmc : (MG.mk G ga gc ga' gc').cells = gs.toList := by rw [HGS.out]; rfl
                have hb8 : Below w5.heap.size wr w8 := ((HBR4.out.trans (HB7.out.mono (by omega))).mono hsz).trans ((((Below.refl _ W7).alloc (show w5.heap.size ≤ W7.heap.size by omega) (.cells gs 61))).grown HGR8.out (by simp; omega) (fun k hk => (own_lt HI.out.own hk).1))
                have hb48 : Below w5.heap.size w4 w8 := (HB7.out.mono (by omega)).trans ((((Below.refl _ W7).alloc (show w5.heap.size ≤ W7.heap.size by omega) (.cells gs 61))).grown HGR8.out (by simp; omega) (fun k hk => (own_lt HI.out.own hk).1))
                have HIN := Lib.hid (HI.out.goOn (mm := ⟨G, ga, gc, ga', gc'⟩) HDR.out hlt HKB.out HG.out.symm HG0.out hb8 ⟨HGD.out, HGT.out.below hb48 (Nat.le_refl _), HGL.out.below hb48 (Nat.le_refl _)⟩ (by rw [hmc]; exact HOW8.out))
                clear hb8 hb48 hmc
                rw [HG0.out]
                go_wp2
                go_roundw
                case rel => exact ⟨j + 1, G.left, 0, mg ++ [⟨G, ga, gc, ga', gc'⟩], ga', gc', a8, c8, by go_num, rfl, by rw [List.length_append]; rfl, rfl, HIN.out⟩
                case measure => simp [intOf]; omega
              · have t3 : (G.e == 0) = false := by simpa using hG0
                have HG0 := Lib.hid hG0
                clear hG0
                go_wp2_with (first
                  | (refine wpList_alloc_abs rfl 61 rfl (badCells 0) zero_got ?_; intro W6 hrow6 hb6 hs6; have HROW6 := Lib.hid hrow6; have HB6 := Lib.hid hb6; clear hrow6 hb6)
                  | (refine wpList_store_abs rfl 61 (.tmp 10) _ rfl w4.heap.size gs rfl rfl 61 _ HROW6.out (by rw [HZ4.out]; exact infoGot) (by rw [HZ4.out]; rfl) HONE4.out ?_; intro W7 hrow7 hoth7 hb7 hs7; have HB7 := Lib.hid (HB6.out.trans hb7); have HIN := Lib.hid (HI.out.ends (mm := ⟨G, ga, gc, ga', gc'⟩) HDR.out hlt HKB.out HG.out.symm HG0.out (HBR4.out.trans (HB7.out.mono (by omega))) ⟨HGD.out, HGT.out.below (HB7.out.mono (show w5.heap.size ≤ w4.heap.size by omega)) (Nat.le_refl _), HGL.out.below (HB7.out.mono (show w5.heap.size ≤ w4.heap.size by omega)) (Nat.le_refl _)⟩); have d1 : W7.cell? ⟨w4.heap.size, 35, none⟩ = some (.int .i64 G.e) := (by rw [cell_of_row _ _ _ _ _ _ hrow7, HGS.out, List.getElem?_toArray]; exact gotCells_e _ _ _ _ _ _ HGD.out); have d2 : W7.cell? ⟨w4.heap.size, 36, none⟩ = some (.slice ga' G.left.length gc') := (by rw [cell_of_row _ _ _ _ _ _ hrow7, HGS.out, List.getElem?_toArray]; exact gotCells_l _ _ _ _ _ _ HGD.out); clear hrow7 hoth7 hb7))
                go_roundw
                case rel => exact ⟨j + 1, G.left, G.e, mg, ga', gc', wa, wc, by go_num, rfl, rfl, rfl, HIN.out⟩
                case measure => simp [intOf]; omega
            · skip
              skip
              have HKM := Lib.hid (show m.kind.f.k = kd from HKD.out.symm)
              have HKK := Lib.hid hk
              subst hk
              have tb : decide ((1099511627776 : Int) < (m.f.n : Int)) = true := by simp; omega
              clear hnb
              go_wp2_with (first
                | (refine wpList_alloc_abs rfl 58 rfl (MF.agg ⟨⟨0, 0, [], zeros32⟩, none, 0⟩) zero_field ?_; intro W2 hrow2 hb2 hs2; have HROW2 := Lib.hid hrow2; have HB2 := Lib.hid hb2; clear hrow2 hb2)
                | (refine wpList_store_abs rfl 58 (.tmp 9) _ rfl w1.heap.size m.kind.agg rfl rfl 58 _ HROW2.out (by rw [HK.out]; exact infoField) (by rw [HK.out, HZ.out]) (MF.agg_one _) ?_; intro W3 hrow3 hoth3 hb3 hs3; have HROW3 := Lib.hid hrow3; obtain ⟨c0, c1, -, -, -⟩ := frow_cells hrow3; rw [HKM.out] at c0; change W3.cell? ⟨w1.heap.size, 1, none⟩ = some (.int .u64 m.f.n) at c1; have HB3 := Lib.hid (HB2.out.trans hb3); clear hrow3 hoth3 hb3)
                | (refine wpList_load_is rfl 58 (.tmp 9) rfl w1.heap.size rfl 58 m.kind.agg _ HROW3.out Try.underlying58 rfl (by rw [HK.out]; exact infoField) ?_))
              have HBR3 := Lib.hid (show Below wr.heap.size wr W3 from HB1.out.trans (HB3.out.mono (by omega)))
              refine (awake4 _).mono ?_
              rintro e w6 ⟨rfl, hb6⟩
              have HB6 := Lib.hid (HB5.out.trans ((HI.out.bel.trans ((HBR3.out.trans (hb6.mono (by omega))).mono hsz)).mono hs5))
              clear hb6 c0 c1
              go_wp2
              go_ret
              exact ⟨rfl, HB6.out⟩
          · have hj : j = ms.length := by omega
            subst hj
            subst he
            obtain ⟨hrun, hok, hc⟩ := HI.out.doneOk
            by_cases hl0 : l' = []
            · rw [if_pos hl0] at hc
              have t5 : decide (0 < l'.length) = false := by rw [hl0]; rfl
              clear hl0
              have HRUN := Lib.hid hrun
              have HOK := Lib.hid hok
              have HC := Lib.hid hc
              clear hrun hok hc
              have HFR := Lib.hid ((HF.out.below (HB5.out.trans (HI.out.bel.mono hs5)) (Nat.le_refl _)).mono (show w.heap.size ≤ wr.heap.size by omega))
              have HGR := Lib.hid (show GotsAt wr wr.heap.size wa wc mg from by
                obtain ⟨a9, c9, e9, hs9⟩ := SlAt.ofOwns HI.out.own
                injection e9 with e10 e11 e12
                subst e10; subst e12
                exact ⟨hs9, fun m hm => (HI.out.is m hm).mono hsz⟩)
              go_wp2_with fail
              obtain ⟨W1, hW1⟩ : ∃ W1, W1 = wr.alloc (.cells #[.slice la ms.length lc, .slice wa mg.length wc, .int .i64 0, .bool true] 65) := ⟨_, rfl⟩
              rw [← hW1]
              have HR1 := Lib.hid (show W1.heap[wr.heap.size]? = some (.cells (heldRow la ms.length lc wa mg.length wc 0) 65 (0, 0)) by rw [hW1]; exact heap_alloc_new wr _)
              have HB1 := Lib.hid (show Below wr.heap.size wr W1 by rw [hW1]; exact (Below.refl _ wr).alloc (Nat.le_refl _) _)
              have hs1 : W1.heap.size = wr.heap.size + 1 := by rw [hW1]; simp
              have HBW1 := Lib.hid (HB5.out.trans ((HI.out.bel.trans (HB1.out.mono hsz)).mono hs5))
              clear hW1
              refine (fieldRead l a l.length c 40 (enterOf Try.func40 (by kernel_rfl) rfl) #[.pointer (some ⟨wr.heap.size, 0, none⟩)] #[] W1 ((H.out.below HBW1.out (Nat.le_refl _)).mono (by omega))
                (fun q w1 w' x => x = codeF (ms.map MF.f) l ∧ ∃ e', HeldEnd q wr.heap.size la ms.length lc wa mg.length wc (runF (ms.map MF.f) l).2.1 (runF (ms.map MF.f) l).2.2 w1 w' e') ?_).mono ?_
              · intro q w1 hb hq he
                show Calls _ 40 #[.pointer (some ⟨wr.heap.size, 0, none⟩), .pointer (some ⟨q, 0, none⟩)] w1 _
                have hsb := hb.size
                refine (heldRead q wr.heap.size ms la lc mg wa wc l w1 he (by omega) wr.heap.size (by omega) (Nat.le_refl _) h12 ((HFR.out.below (HB1.out.trans (hb.mono (show wr.heap.size ≤ W1.heap.size by omega))) (Nat.le_refl _))) (HGR.out.below (HB1.out.trans (hb.mono (show wr.heap.size ≤ W1.heap.size by omega))) (Nat.le_refl _)) HOK.out HRUN.out (by omega) ((hb.block _ (by omega)).trans HR1.out)).mono ?_
                rintro e' w' hend
                exact ⟨hend.two.size, fun k h1 h2 h3 => hend.two.block k h2 h3 (by omega), _, held_left hend, rfl, e', hend⟩
              · rintro e' w2 ⟨q, w1, w', x, rb, rfl, hb1, hq1, hq2, hr1, hr2, hrq, ⟨rfl, e', hend⟩, hbut⟩
                have hsb1 := hb1.size
                have hse := hend.two.size
                have hsb := hbut.size
                rw [HC.out]
                have hrow2 := (hbut.block wr.heap.size (by omega) (by omega)).trans hend.row
                have hb2 : Below wr.heap.size wr w2 := (HB1.out.trans (hb1.mono (by omega))).trans ((hend.two.below (by omega) (Nat.le_refl _) (by omega)).trans (hbut.below (by omega) (by omega)))
                have HB2 := Lib.hid (HB5.out.trans ((HI.out.bel.trans (hb2.mono hsz)).mono hs5))
                have hs2 : w.heap.size ≤ w2.heap.size := by omega
                have p2 : w2.cell? ⟨wr.heap.size, 2, none⟩ = some (.int .i64 (mg.length : Nat)) := (by rw [cell_of_row _ _ _ _ _ _ hrow2]; rfl)
                have p3 : w2.cell? ⟨wr.heap.size, 3, none⟩ = some (.bool true) := (by rw [cell_of_row _ _ _ _ _ _ hrow2]; rfl)
                clear hb1 hend hbut hrow2 hb2
                go_wp2_with fail
                refine (awake4 _).mono ?_
                rintro e' w6 ⟨rfl, hb6⟩
                have HB6 := Lib.hid (HB2.out.trans (hb6.mono hs2))
                clear hb6 p2 p3
                go_wp2
                go_ret
                exact ⟨rfl, HB6.out⟩
            · rw [if_neg hl0] at hc
              have t5 : decide (0 < l'.length) = true := by
                have := List.length_pos_iff.2 hl0
                simp; omega
              clear hl0
              have HRUN := Lib.hid hrun
              have HOK := Lib.hid hok
              have HC := Lib.hid hc
              clear hrun hok hc
              have HFR := Lib.hid ((HF.out.below (HB5.out.trans (HI.out.bel.mono hs5)) (Nat.le_refl _)).mono (show w.heap.size ≤ wr.heap.size by omega))
              have HGR := Lib.hid (show GotsAt wr wr.heap.size wa wc mg from by
                obtain ⟨a9, c9, e9, hs9⟩ := SlAt.ofOwns HI.out.own
                injection e9 with e10 e11 e12
                subst e10; subst e12
                exact ⟨hs9, fun m hm => (HI.out.is m hm).mono hsz⟩)
              go_wp2_with fail
              obtain ⟨W1, hW1⟩ : ∃ W1, W1 = wr.alloc (.cells #[.slice la ms.length lc, .slice wa mg.length wc, .int .i64 0, .bool true] 65) := ⟨_, rfl⟩
              rw [← hW1]
              have HR1 := Lib.hid (show W1.heap[wr.heap.size]? = some (.cells (heldRow la ms.length lc wa mg.length wc 0) 65 (0, 0)) by rw [hW1]; exact heap_alloc_new wr _)
              have HB1 := Lib.hid (show Below wr.heap.size wr W1 by rw [hW1]; exact (Below.refl _ wr).alloc (Nat.le_refl _) _)
              have hs1 : W1.heap.size = wr.heap.size + 1 := by rw [hW1]; simp
              have HBW1 := Lib.hid (HB5.out.trans ((HI.out.bel.trans (HB1.out.mono hsz)).mono hs5))
              clear hW1
              refine (fieldRead l a l.length c 40 (enterOf Try.func40 (by kernel_rfl) rfl) #[.pointer (some ⟨wr.heap.size, 0, none⟩)] #[] W1 ((H.out.below HBW1.out (Nat.le_refl _)).mono (by omega))
                (fun q w1 w' x => x = codeF (ms.map MF.f) l ∧ ∃ e', HeldEnd q wr.heap.size la ms.length lc wa mg.length wc (runF (ms.map MF.f) l).2.1 (runF (ms.map MF.f) l).2.2 w1 w' e') ?_).mono ?_
              · intro q w1 hb hq he
                show Calls _ 40 #[.pointer (some ⟨wr.heap.size, 0, none⟩), .pointer (some ⟨q, 0, none⟩)] w1 _
                have hsb := hb.size
                refine (heldRead q wr.heap.size ms la lc mg wa wc l w1 he (by omega) wr.heap.size (by omega) (Nat.le_refl _) h12 ((HFR.out.below (HB1.out.trans (hb.mono (show wr.heap.size ≤ W1.heap.size by omega))) (Nat.le_refl _))) (HGR.out.below (HB1.out.trans (hb.mono (show wr.heap.size ≤ W1.heap.size by omega))) (Nat.le_refl _)) HOK.out HRUN.out (by omega) ((hb.block _ (by omega)).trans HR1.out)).mono ?_
                rintro e' w' hend
                exact ⟨hend.two.size, fun k h1 h2 h3 => hend.two.block k h2 h3 (by omega), _, held_left hend, rfl, e', hend⟩
              · rintro e' w2 ⟨q, w1, w', x, rb, rfl, hb1, hq1, hq2, hr1, hr2, hrq, ⟨rfl, e', hend⟩, hbut⟩
                have hsb1 := hb1.size
                have hse := hend.two.size
                have hsb := hbut.size
                rw [HC.out]
                have hrow2 := (hbut.block wr.heap.size (by omega) (by omega)).trans hend.row
                have hb2 : Below wr.heap.size wr w2 := (HB1.out.trans (hb1.mono (by omega))).trans ((hend.two.below (by omega) (Nat.le_refl _) (by omega)).trans (hbut.below (by omega) (by omega)))
                have HB2 := Lib.hid (HB5.out.trans ((HI.out.bel.trans (hb2.mono hsz)).mono hs5))
                have hs2 : w.heap.size ≤ w2.heap.size := by omega
                have p2 : w2.cell? ⟨wr.heap.size, 2, none⟩ = some (.int .i64 (mg.length : Nat)) := (by rw [cell_of_row _ _ _ _ _ _ hrow2]; rfl)
                have p3 : w2.cell? ⟨wr.heap.size, 3, none⟩ = some (.bool true) := (by rw [cell_of_row _ _ _ _ _ _ hrow2]; rfl)
                clear hb1 hend hbut hrow2 hb2
                go_wp2_with fail
                refine (awake4 _).mono ?_
                rintro e' w6 ⟨rfl, hb6⟩
                have HB6 := Lib.hid (HB2.out.trans (hb6.mono hs2))
                clear hb6 p2 p3
                go_wp2
                go_ret
                exact ⟨rfl, HB6.out⟩
        · have t5 : (e == 0) = false := by simpa using he
          obtain ⟨hrun, hok, hc⟩ := HI.out.doneBad he
          clear he
          by_cases hlt : j < ms.length
          · skip
            have HRUN := Lib.hid hrun
            have HOK := Lib.hid hok
            have HC := Lib.hid hc
            clear hrun hok hc
            have HFR := Lib.hid ((HF.out.below (HB5.out.trans (HI.out.bel.mono hs5)) (Nat.le_refl _)).mono (show w.heap.size ≤ wr.heap.size by omega))
            have HGR := Lib.hid (show GotsAt wr wr.heap.size wa wc mg from by
              obtain ⟨a9, c9, e9, hs9⟩ := SlAt.ofOwns HI.out.own
              injection e9 with e10 e11 e12
              subst e10; subst e12
              exact ⟨hs9, fun m hm => (HI.out.is m hm).mono hsz⟩)
            go_wp2_with fail
            obtain ⟨W1, hW1⟩ : ∃ W1, W1 = wr.alloc (.cells #[.slice la ms.length lc, .slice wa mg.length wc, .int .i64 0, .bool true] 65) := ⟨_, rfl⟩
            rw [← hW1]
            have HR1 := Lib.hid (show W1.heap[wr.heap.size]? = some (.cells (heldRow la ms.length lc wa mg.length wc 0) 65 (0, 0)) by rw [hW1]; exact heap_alloc_new wr _)
            have HB1 := Lib.hid (show Below wr.heap.size wr W1 by rw [hW1]; exact (Below.refl _ wr).alloc (Nat.le_refl _) _)
            have hs1 : W1.heap.size = wr.heap.size + 1 := by rw [hW1]; simp
            have HBW1 := Lib.hid (HB5.out.trans ((HI.out.bel.trans (HB1.out.mono hsz)).mono hs5))
            clear hW1
            refine (fieldRead l a l.length c 40 (enterOf Try.func40 (by kernel_rfl) rfl) #[.pointer (some ⟨wr.heap.size, 0, none⟩)] #[] W1 ((H.out.below HBW1.out (Nat.le_refl _)).mono (by omega))
              (fun q w1 w' x => x = codeF (ms.map MF.f) l ∧ ∃ e', HeldEnd q wr.heap.size la ms.length lc wa mg.length wc (runF (ms.map MF.f) l).2.1 (runF (ms.map MF.f) l).2.2 w1 w' e') ?_).mono ?_
            · intro q w1 hb hq he
              show Calls _ 40 #[.pointer (some ⟨wr.heap.size, 0, none⟩), .pointer (some ⟨q, 0, none⟩)] w1 _
              have hsb := hb.size
              refine (heldRead q wr.heap.size ms la lc mg wa wc l w1 he (by omega) wr.heap.size (by omega) (Nat.le_refl _) h12 ((HFR.out.below (HB1.out.trans (hb.mono (show wr.heap.size ≤ W1.heap.size by omega))) (Nat.le_refl _))) (HGR.out.below (HB1.out.trans (hb.mono (show wr.heap.size ≤ W1.heap.size by omega))) (Nat.le_refl _)) HOK.out HRUN.out (by omega) ((hb.block _ (by omega)).trans HR1.out)).mono ?_
              rintro e' w' hend
              exact ⟨hend.two.size, fun k h1 h2 h3 => hend.two.block k h2 h3 (by omega), _, held_left hend, rfl, e', hend⟩
            · rintro e' w2 ⟨q, w1, w', x, rb, rfl, hb1, hq1, hq2, hr1, hr2, hrq, ⟨rfl, e', hend⟩, hbut⟩
              have hsb1 := hb1.size
              have hse := hend.two.size
              have hsb := hbut.size
              rw [HC.out]
              have hrow2 := (hbut.block wr.heap.size (by omega) (by omega)).trans hend.row
              have hb2 : Below wr.heap.size wr w2 := (HB1.out.trans (hb1.mono (by omega))).trans ((hend.two.below (by omega) (Nat.le_refl _) (by omega)).trans (hbut.below (by omega) (by omega)))
              have HB2 := Lib.hid (HB5.out.trans ((HI.out.bel.trans (hb2.mono hsz)).mono hs5))
              have hs2 : w.heap.size ≤ w2.heap.size := by omega
              have p2 : w2.cell? ⟨wr.heap.size, 2, none⟩ = some (.int .i64 (mg.length : Nat)) := (by rw [cell_of_row _ _ _ _ _ _ hrow2]; rfl)
              have p3 : w2.cell? ⟨wr.heap.size, 3, none⟩ = some (.bool true) := (by rw [cell_of_row _ _ _ _ _ _ hrow2]; rfl)
              clear hb1 hend hbut hrow2 hb2
              go_wp2_with fail
              refine (awake4 _).mono ?_
              rintro e' w6 ⟨rfl, hb6⟩
              have HB6 := Lib.hid (HB2.out.trans (hb6.mono hs2))
              clear hb6 p2 p3
              go_wp2
              go_ret
              exact ⟨rfl, HB6.out⟩
          · have hj : j = ms.length := by omega
            subst hj
            have HRUN := Lib.hid hrun
            have HOK := Lib.hid hok
            have HC := Lib.hid hc
            clear hrun hok hc
            have HFR := Lib.hid ((HF.out.below (HB5.out.trans (HI.out.bel.mono hs5)) (Nat.le_refl _)).mono (show w.heap.size ≤ wr.heap.size by omega))
            have HGR := Lib.hid (show GotsAt wr wr.heap.size wa wc mg from by
              obtain ⟨a9, c9, e9, hs9⟩ := SlAt.ofOwns HI.out.own
              injection e9 with e10 e11 e12
              subst e10; subst e12
              exact ⟨hs9, fun m hm => (HI.out.is m hm).mono hsz⟩)
            go_wp2_with fail
            obtain ⟨W1, hW1⟩ : ∃ W1, W1 = wr.alloc (.cells #[.slice la ms.length lc, .slice wa mg.length wc, .int .i64 0, .bool true] 65) := ⟨_, rfl⟩
            rw [← hW1]
            have HR1 := Lib.hid (show W1.heap[wr.heap.size]? = some (.cells (heldRow la ms.length lc wa mg.length wc 0) 65 (0, 0)) by rw [hW1]; exact heap_alloc_new wr _)
            have HB1 := Lib.hid (show Below wr.heap.size wr W1 by rw [hW1]; exact (Below.refl _ wr).alloc (Nat.le_refl _) _)
            have hs1 : W1.heap.size = wr.heap.size + 1 := by rw [hW1]; simp
            have HBW1 := Lib.hid (HB5.out.trans ((HI.out.bel.trans (HB1.out.mono hsz)).mono hs5))
            clear hW1
            refine (fieldRead l a l.length c 40 (enterOf Try.func40 (by kernel_rfl) rfl) #[.pointer (some ⟨wr.heap.size, 0, none⟩)] #[] W1 ((H.out.below HBW1.out (Nat.le_refl _)).mono (by omega))
              (fun q w1 w' x => x = codeF (ms.map MF.f) l ∧ ∃ e', HeldEnd q wr.heap.size la ms.length lc wa mg.length wc (runF (ms.map MF.f) l).2.1 (runF (ms.map MF.f) l).2.2 w1 w' e') ?_).mono ?_
            · intro q w1 hb hq he
              show Calls _ 40 #[.pointer (some ⟨wr.heap.size, 0, none⟩), .pointer (some ⟨q, 0, none⟩)] w1 _
              have hsb := hb.size
              refine (heldRead q wr.heap.size ms la lc mg wa wc l w1 he (by omega) wr.heap.size (by omega) (Nat.le_refl _) h12 ((HFR.out.below (HB1.out.trans (hb.mono (show wr.heap.size ≤ W1.heap.size by omega))) (Nat.le_refl _))) (HGR.out.below (HB1.out.trans (hb.mono (show wr.heap.size ≤ W1.heap.size by omega))) (Nat.le_refl _)) HOK.out HRUN.out (by omega) ((hb.block _ (by omega)).trans HR1.out)).mono ?_
              rintro e' w' hend
              exact ⟨hend.two.size, fun k h1 h2 h3 => hend.two.block k h2 h3 (by omega), _, held_left hend, rfl, e', hend⟩
            · rintro e' w2 ⟨q, w1, w', x, rb, rfl, hb1, hq1, hq2, hr1, hr2, hrq, ⟨rfl, e', hend⟩, hbut⟩
              have hsb1 := hb1.size
              have hse := hend.two.size
              have hsb := hbut.size
              rw [HC.out]
              have hrow2 := (hbut.block wr.heap.size (by omega) (by omega)).trans hend.row
              have hb2 : Below wr.heap.size wr w2 := (HB1.out.trans (hb1.mono (by omega))).trans ((hend.two.below (by omega) (Nat.le_refl _) (by omega)).trans (hbut.below (by omega) (by omega)))
              have HB2 := Lib.hid (HB5.out.trans ((HI.out.bel.trans (hb2.mono hsz)).mono hs5))
              have hs2 : w.heap.size ≤ w2.heap.size := by omega
              have p2 : w2.cell? ⟨wr.heap.size, 2, none⟩ = some (.int .i64 (mg.length : Nat)) := (by rw [cell_of_row _ _ _ _ _ _ hrow2]; rfl)
              have p3 : w2.cell? ⟨wr.heap.size, 3, none⟩ = some (.bool true) := (by rw [cell_of_row _ _ _ _ _ _ hrow2]; rfl)
              clear hb1 hend hbut hrow2 hb2
              go_wp2_with fail
              refine (awake4 _).mono ?_
              rintro e' w6 ⟨rfl, hb6⟩
              have HB6 := Lib.hid (HB2.out.trans (hb6.mono hs2))
              clear hb6 p2 p3
              go_wp2
              go_ret
              exact ⟨rfl, HB6.out⟩
    · have t2 : decide ((12 : Int) < (ms.length : Int)) = true := by simp; omega
      clear h
      go_enter Try.func6, Try.ntmps6
      go_wp2_with fail
      refine (awake4 _).mono ?_
      rintro e w1 ⟨rfl, hb⟩
      go_wp2
      go_ret
      exact ⟨rfl, hb⟩
  · have t1 : decide ((200 : Int) < (n : Int)) = true := by simp; omega
    clear h
    go_enter Try.func6, Try.ntmps6
    go_wp2_with fail
    refine (awake4 _).mono ?_
    rintro e w1 ⟨rfl, hb⟩
    go_wp2
    go_ret
    exact ⟨rfl, hb⟩
end Go.Proofs.Ytogcnfhmcpkdcaa
