/-
  Contract of the reference's Read of an entry.
-/
import Derived.Test.YtogcnfhmcpkdcaaEntry5
import Derived.Test.YtogcnfhmcpkdcaaGotLaw
import Derived.Test.YtogcnfhmcpkdcaaVote8
import Derived.Test.YtogcnfhmcpkdcaaHeld
import Derived.Test.YtogcnfhmcpkdcaaWideOps3
import Derived.Test.YtogcnfhmcpkdcaaEntryBuild
import Derived.BigRegion
import Derived.Deep.DeepMust
namespace Go.Proofs.Ytogcnfhmcpkdcaa
open Go.RowKit
set_option linter.unusedVariables false
set_option linter.unusedSimpArgs false

def mostAt (j : Nat) : Nat := [3, 63, 0, 4611686018427387904, 63, 1099511627776].getD j 0
def mostA : Array Value := #[.int .u64 3, .int .u64 63, .int .u64 0, .int .u64 4611686018427387904, .int .u64 63, .int .u64 1099511627776]

/-- what is left to be read behind 6 - f fields -/
def restF : Nat → List Nat → List UInt8 → List UInt8 → Res PEntry
  | 0, ns, d, r => .ok ⟨(ns.getD 0 0 : Nat), (ns.getD 1 0 : Nat), d, ns.getD 3 0, (ns.getD 4 0 : Nat), (ns.getD 5 0 : Nat)⟩ r
  | f + 1, ns, d, r => if f = 3 then (getTake 32 r).bind fun d' r' => restF f (ns ++ [0]) d' r' else (getNum (mostAt (5 - f)) r).bind fun v r' => restF f (ns ++ [v]) d r'

theorem getE_rest (l : List UInt8) : getE l = restF 6 [] zeroTx l := by
  simp only [getE, restF, mostAt]
  rfl

theorem mostA_at (j : Nat) (hj : j < 6) : mostA[j]? = some (.int .u64 (mostAt j : Nat)) := by
  match j, hj with
  | 0, _ => rfl
  | 1, _ => rfl
  | 2, _ => rfl
  | 3, _ => rfl
  | 4, _ => rfl
  | 5, _ => rfl

def nv (n : Nat) : Value := .int .u64 (n : Int)
theorem nvs_one (ns : List Nat) : ∀ u ∈ ns.map nv, u.oneCell' = true := by
  intro u hu
  obtain ⟨x, _, rfl⟩ := List.mem_map.1 hu
  rfl

theorem infoU64 : (Try.prog.info? 32).map (fun i => (i.zero, i.size, i.bytes)) = some (some (.int .u64 0), 1, 8) := by kernel_rfl
theorem zero_id (w : World) : (zeroValue 56).run Try.prog w = .ok (.agg (zeroTx.map bv).toArray) w := by kernel_rfl

/-- the rest of the cells of a field that is asked for -/
def askF : List Value := .slice none 0 0 :: zeroTx.map bv
theorem askF_len : askF.length = 33 := by rfl
def askC (k : Int) (n : Nat) : Array Value := (.int .i64 k :: .int .u64 n :: askF).toArray
theorem askC_size (k : Int) (n : Nat) : (askC k n).size = 35 := by rfl
theorem askC_one (k : Int) (n : Nat) : (askC k n).all (·.oneCell') = true := by simp [askC, askF, zeroTx, Value.oneCell']
theorem built_ask (n : Nat) : Try.prog.built 58 [(1, .int .u64 (n : Int))] = some (askC 0 n) := by kernel_rfl

/-- the loop of Read, at a round's head -/
structure LoopE (l : List UInt8) (w wr : World) (j : Nat) (ns : List Nat) (d r : List UInt8) (ba : Option Addr) (bc : Nat) (va : Option Addr) (vc : Nat) : Prop where
  le : j ≤ 6
  nl : ns.length = j
  dl : d.length = 32
  rest : getE l = restF (6 - j) ns d r
  b : BsAt wr w.heap.size ba r.length bc r
  v : wr.ownsRow (w.heap.size + 3) 32 1 (.slice va j vc) j (ns.map nv)
  box : wr.heap[w.heap.size + 2]? = some (.cells (d.map bv).toArray 56 (0, 0))
  most : wr.heap[w.heap.size + 1]? = some (.cells mostA 32 (0, 0))
  res : wr.heap[w.heap.size]? = some (.cells (eagg zeroE) 68 (0, 0))
  bel : Below w.heap.size w wr
  sz : w.heap.size + 3 ≤ wr.heap.size
  bd : ∀ i n, ns[i]? = some n → n ≤ mostAt i

theorem LoopE.below {l : List UInt8} {w wr w' : World} {j : Nat} {ns : List Nat} {d r : List UInt8} {ba : Option Addr} {bc : Nat} {va : Option Addr} {vc : Nat} (h : LoopE l w wr j ns d r ba bc va vc) (hb : Below wr.heap.size wr w') : LoopE l w w' j ns d r ba bc va vc :=
  have hz := h.sz
  ⟨h.le, h.nl, h.dl, h.rest, h.b.below hb (by omega), own_below h.v hb, (hb.block _ (by omega)).trans h.box, (hb.block _ (by omega)).trans h.most, (hb.block _ (by omega)).trans h.res, h.bel.trans (hb.mono (by omega)), Nat.le_trans h.sz hb.size, h.bd⟩

/-- what the last region reads -/
structure LastS (w : World) (vb vo : Nat) (n0 n1 n3 n4 n5 : Nat) (d : List UInt8) (w' : World) : Prop where
  v0 : w'.cell? ⟨vb, vo, none⟩ = some (.int .u64 n0)
  v1 : w'.cell? ⟨vb, vo + 1, none⟩ = some (.int .u64 n1)
  v3 : w'.cell? ⟨vb, vo + 3, none⟩ = some (.int .u64 n3)
  v4 : w'.cell? ⟨vb, vo + 4, none⟩ = some (.int .u64 n4)
  v5 : w'.cell? ⟨vb, vo + 5, none⟩ = some (.int .u64 n5)
  box : w'.heap[w.heap.size + 1 + 1]? = some (.cells (d.map bv).toArray 56 (0, 0))

theorem six {α : Type} {l : List α} (h : l.length = 6) : ∃ a b c d e f, l = [a, b, c, d, e, f] := by
  match l, h with
  | [a, b, c, d, e, f], _ => exact ⟨a, b, c, d, e, f, rfl⟩

/-- a round's end -/
theorem LoopE.step {l : List UInt8} {w W5 w7 : World} {j : Nat} {ns : List Nat} {d r : List UInt8} {ba : Option Addr} {bc : Nat} {va : Option Addr} {vc : Nat} (h : LoopE l w W5 j ns d r ba bc va vc) (hj : j < 6) {v : Nat} (hv : v ≤ mostAt j) {d' r' : List UInt8} {b2 : Option Addr} {c2 : Nat} {a6 : Option Addr} {c6 : Nat}
    (hd : d'.length = 32) (hrest : getE l = restF (5 - j) (ns ++ [v]) d' r') (hb2 : BsAt W5 w.heap.size b2 r'.length c2 r') (hB : Below (w.heap.size + 2) W5 w7) (hown : w7.ownsRow (w.heap.size + 3) 32 1 (.slice a6 (j + 1) c6) (j + 1) ((ns ++ [v]).map nv))
    (hbox : w7.heap[w.heap.size + 2]? = some (.cells (d'.map bv).toArray 56 (0, 0))) : LoopE l w w7 (j + 1) (ns ++ [v]) d' r' b2 c2 a6 c6 := by
  have hz := h.sz
  have hs := hB.size
  have hnl := h.nl
  refine ⟨by omega, by simp [hnl], hd, by rw [hrest]; congr 1; omega, hb2.below hB (by omega), hown, hbox, (hB.block _ (by omega)).trans h.most, (hB.block _ (by omega)).trans h.res, h.bel.trans (hB.mono (by omega)), by omega, fun i n hi => ?_⟩
  by_cases hij : i < ns.length
  · rw [List.getElem?_append_left hij] at hi
    exact h.bd i n hi
  · rw [List.getElem?_append_right (by omega)] at hi
    have : i - ns.length = 0 := by
      by_cases h0 : i - ns.length = 0
      · exact h0
      · rw [List.getElem?_eq_none (by simp; omega)] at hi; cases hi
    rw [this] at hi
    simp at hi
    subst hi
    rw [show i = j by omega]
    exact hv

theorem got_range {T : TypeId} {W : World} {g : Nat} {k : Int} {n : Nat} {sv : Value} {d : List UInt8} {e : Int} {lv : Value} (hd : d.length = 32) (h : W.heap[g]? = some (.cells (gotCells k n sv d e lv).toArray T (0, 0))) : W.rangeAt g 3 (d.map bv) := by
  intro j v hj
  rw [cell_of_row _ _ _ _ _ _ h, List.getElem?_toArray, Nat.add_comm]
  simp only [gotCells, List.getElem?_cons_succ]
  rw [List.getElem?_append_left ((List.getElem?_eq_some_iff.1 hj).1)]
  exact hj

theorem range_grown {A B : World} {row : Option Nat} {b o : Nat} {cs : List Value} (h : A.rangeAt b o cs) (hg : A.grownBy B row) (hb : b < A.heap.size) (hne : some b ≠ row) : B.rangeAt b o cs := fun j v hj =>
  (hg.cell_far ⟨b, o + j, none⟩ hb hne).trans (h j v hj)

set_option maxRecDepth 100000 in
set_option maxHeartbeats 8000000 in
theorem refEntryRead (l : List UInt8) (a : Option Addr) (n c : Nat) (w : World) (h : BsAt w w.heap.size a n c l) :
    Calls Try.prog 43 #[.slice a n c] w fun e w' => e = .returned (.tuple #[.agg (eagg (outE (getE l)).1), .int .i64 (outE (getE l)).2]) ∧ Below w.heap.size w w' := by
  obtain ⟨i0, hi, hz0, hz1, hz2⟩ := info_parts infoU64
  obtain ⟨O, hO⟩ : ∃ O, O = outE (getE l) := ⟨_, rfl⟩
  rw [← hO]
  have HO := Lib.hid hO
  have hl := h.hlen
  subst hl
  have H := Lib.hid h
  have HZS := Lib.hid (eagg_size zeroE rfl)
  clear hO h
  go_enter Try.func43, Try.ntmps43
  go_wp2_with (first
    | (refine wpList_alloc_abs rfl 68 rfl (eagg zeroE) zero_entry ?_; intro W0 hrow0 hb0 hs0; have HRW0 := Lib.hid hrow0; have HB0 := Lib.hid hb0; clear hrow0 hb0)
    | (refine wpList_alloc_abs rfl 56 rfl (zeroTx.map bv).toArray zero_id ?_; intro W1 hrow1 hb1 hs1; have HRW1 := Lib.hid hrow1; have HB1 := Lib.hid hb1; clear hrow1 hb1))
  have hb01 : Below w.heap.size w W1 := HB0.out.trans ((((Below.refl _ W0).alloc (Nat.le_refl _) _).trans (HB1.out.mono (by simp))).mono (by omega))
  have hs01 : W1.heap.size = w.heap.size + 3 := by rw [hs1]; simp; omega
  have hI0 : LoopE l w W1 0 [] zeroTx l a c none 0 := by
    refine ⟨by omega, rfl, rfl, ?_, (H.out.below hb01 (Nat.le_refl _)), ⟨rfl, .inl ⟨rfl, rfl⟩⟩, ?_, ?_, ?_, hb01, by omega, fun i n h9 => by simp at h9⟩
    · exact getE_rest l
    · have := HRW1.out; simp only [World.size_alloc, hs0] at this; exact this
    · rw [HB1.out.block _ (by simp; omega), ← hs0]; exact heap_alloc_new W0 _
    · rw [HB1.out.block _ (by simp; omega), heap_alloc_old _ _ (by omega)]; exact HRW0.out
  have HI0 := Lib.hid hI0
  clear hI0 hb01 hs1
  go_loopw [0, 5, 7] (fun bvv vv iv wr => ∃ (j : Nat) (ns : List Nat) (d r : List UInt8) (ba va : Option Addr) (bc vc : Nat), iv = .int .i64 j ∧ bvv = .slice ba r.length bc ∧ vv = .slice va j vc ∧ LoopE l w wr j ns d r ba bc va vc)
    (fun _ _ iv _ => 6 - (intOf iv).toNat)
  case atStart => exact ⟨0, [], zeroTx, l, a, none, c, 0, rfl, rfl, rfl, HI0.out⟩
  case round =>
    obtain ⟨j, ns, d, r, ba, va, bc, vc, rfl, rfl, rfl, hI⟩ := hrel
    have HI := Lib.hid hI
    have hj6 := hI.le
    have hnl := hI.nl
    have hszr := hI.sz
    have hmost := hI.most
    clear hI
    by_cases hlt : j < 6
    · obtain ⟨f, hf⟩ : ∃ f, 6 - j = f + 1 := ⟨5 - j, by omega⟩
      have hrst := HI.out.rest
      rw [hf] at hrst
      have hcm : wr.cell? ⟨w.heap.size + 1, j, none⟩ = some (.int .u64 (mostAt j : Nat)) := by rw [cell_of_row _ _ _ _ _ _ hmost]; exact mostA_at j hlt
      have hsz1 : w.heap.size + 1 < wr.heap.size := by omega
      have HF := Lib.hid hf
      have HM := Lib.hid hmost
      clear hf hmost
      by_cases h2 : j = 2
      · subst h2
        have hf3 : f = 3 := by have := HF.out; omega
        have hrst2 : getE l = (getTake 32 r).bind fun d' r' => restF f (ns ++ [0]) d' r' := by rw [hrst]; simp only [restF, if_pos hf3]
        have HRST := Lib.hid hrst2
        clear hrst hrst2 hf3
        go_wp2_with (first
          | (refine wpList_build_l rfl 58 [(1, .tmp 18)] rfl [(1, .int .u64 ((mostAt 2) : Nat))] rfl (askC 0 (mostAt 2)) (built_ask _) ?_)
          | (refine wpList_store_new rfl 58 (.tmp 8) (.tmp 19) rfl (askC 0 (mostAt 2)) rfl rfl 58 _ (by rw [askC_size]; exact infoField) (askC_size _ _).symm (askC_one _ _) ?_; intro W2 hrow2 hb2 hs2; have HROW2 := Lib.hid hrow2; have HB2 := Lib.hid hb2; have hc2 : W2.cell? ⟨wr.heap.size, 0, none⟩ = some (.int .i64 0) := (by rw [cell_of_row _ _ _ _ _ _ hrow2]; rfl); have hf2 : W2.frozen? ⟨wr.heap.size, 0, none⟩ = false := frozen_of_row _ _ _ _ _ hrow2; have HRL := Lib.hid (heap_setCell_same W2 wr.heap.size 0 _ _ (.int .i64 2) hrow2); clear hrow2 hb2)
          | (refine wpList_load_is rfl 58 (.tmp 8) rfl wr.heap.size rfl 58 (askC 2 (mostAt 2)) _ HRL.out Try.underlying58 rfl (by rw [askC_size]; exact infoField) ?_))
        obtain ⟨W3, hW3⟩ : ∃ W3, W3 = W2.setCell ⟨wr.heap.size, 0, none⟩ (.int .i64 2) := ⟨_, rfl⟩
        rw [← hW3]
        have hb3 : Below wr.heap.size wr W3 := by rw [hW3]; exact HB2.out.setCell (p := ⟨wr.heap.size, 0, none⟩) (Nat.le_refl _) _
        have hs3 : W3.heap.size = wr.heap.size + 1 := by rw [hW3]; simpa using hs2
        clear hW3 hc2 hf2
        have HB3 := Lib.hid hb3
        have hszr := HI.out.sz
        refine (refTake 2 r ba r.length bc askF (mostAt 2) askF_len _ w.heap.size (by omega) (HI.out.b.below (HB3.out.mono (by omega)) (Nat.le_refl _))).mono ?_
        rintro e w4 ⟨gs, rfl, hgs, hb4⟩
        have hs4 := hb4.size
        obtain ⟨hz4, hone4⟩ := hgs.parts (takeP_d _ _ _)
        have HGS := Lib.hid hgs
        have HZ4 := Lib.hid hz4
        have HONE4 := Lib.hid hone4
        have HB4 := Lib.hid (HB3.out.trans (hb4.mono (by omega)))
        have HI4 := Lib.hid (HI.out.below HB4.out)
        clear hgs hz4 hone4 hb4 hb3
        cases hg : getTake 32 r with
        | err x =>
          have hx : x ≠ 0 := by have := getTake_errs hg; omega
          have hG := HGS.out
          rw [takeP_id_err hg] at hG
          have hgl : getE l = .err x := by rw [HRST.out, hg]; rfl
          have hO : O = (zeroE, x) := by rw [HO.out, hgl]; rfl
          subst hO
          have HG := Lib.hid hG
          have t3 : (x != 0) = true := by simpa using hx
          clear hG hg HGS hx hgl
          go_wp2_with (refine wpList_store_new rfl 61 (.tmp 9) _ rfl gs rfl rfl 61 _ (by rw [HZ4.out]; exact infoGot) HZ4.out.symm HONE4.out ?_; intro W5 hrow5 hb5 hs5; obtain ⟨a1, c1, a2, c2, hga, -, -, -, k3, k4⟩ := HG.out.lay (by simp [zeros32]) (by omega) hrow5 hb5; have HB5 := Lib.hid hb5; clear hga hrow5 hb5 k4)
          have hd := (HB5.out.block w.heap.size (by omega)).trans HI4.out.res
          have HD := Lib.hid hd
          have hS0 : W5.drew.cell? ⟨w4.heap.size, 35, none⟩ = some (.int .i64 x) := k3
          clear hd
          refine wp_region_any (by kernel_rfl) ?_
          refine wpAny_of_held (S := fun w' => w'.cell? ⟨w4.heap.size, 35, none⟩ = some (.int .i64 x)) _ _ _ _ ?_
          refine heldTake 0 29 (v := .agg (eagg zeroE)) rfl rfl (by kernel_rfl) (by kernel_rfl) (by kernel_rfl) (fun _ _ _ h => h) hS0 (.inl ⟨by rfl, by intro w' hS; go_simp; all_goals rfl⟩) ?_
          simp only [List.set_cons_zero, List.set_cons_succ]
          refine heldTake 1 30 rfl rfl (by kernel_rfl) (by kernel_rfl) (by kernel_rfl) (fun _ _ _ h => h) hS0 (.inl ⟨by rfl, by intro w' hS; (try dsimp only at hS); go_simp; (try rfl)⟩) ?_
          simp only [List.set_cons_zero, List.set_cons_succ]
          refine heldTake 2 31 rfl rfl (by kernel_rfl) (by kernel_rfl) (by kernel_rfl) (fun _ _ _ h => h) hS0 (.inl ⟨by rfl, by intro w' hS; (try dsimp only at hS); go_simp; (try rfl)⟩) ?_
          simp only [List.set_cons_zero, List.set_cons_succ]
          refine heldOne 3 (by kernel_rfl) rfl (by rfl) ?_
          refine wp_store_row 68 (.tmp 2) (.tmp 29) rfl w.heap.size (eagg zeroE) rfl rfl 68 _ HD.out (by rw [HZS.out]; exact infoEntry) (by rw [HZS.out]) (eagg_one _) ?_
          have hS1 : (W5.drew.setRow w.heap.size (eagg zeroE)).cell? ⟨w4.heap.size, 35, none⟩ = some (.int .i64 x) := (World.cell?_of_block (a := ⟨w4.heap.size, 35, none⟩) (setRow_other _ _ _ _ (by show w4.heap.size ≠ w.heap.size; omega))).trans hS0
          refine ⟨hS1, ?_⟩
          refine heldTake 4 3 rfl rfl (by kernel_rfl) (by kernel_rfl) (by kernel_rfl) (fun _ _ _ h => h) hS1 (.inl ⟨by rfl, by intro w' hS; (try dsimp only at hS); go_simp; (try rfl)⟩) ?_
          simp only [List.set_cons_zero, List.set_cons_succ]
          refine wpAnyH_done (by kernel_rfl) ?_ _
          have HROWF := Lib.hid (setRow_heap W5.drew w.heap.size _ (eagg zeroE) 68 _ HD.out)
          have HBF := Lib.hid (HI4.out.bel.trans ((HB5.out.mono (show w.heap.size ≤ w4.heap.size by omega)).trans ((Below.refl _ W5).drew.trans (below_setRow W5.drew (eagg zeroE) (Nat.le_refl _)))))
          clear k3 hS0 hS1
          go_wp2
          refine bodyPost_ret (results_row_tmp rfl _ _ w.heap.size 68 _ (0, 0) _ rfl HROWF.out Try.underlying68 rfl (by rw [HZS.out]; exact infoEntry)) rfl ⟨rfl, HBF.out⟩
        | ok d' r' =>
          have hG := HGS.out
          rw [takeP_id_ok hg] at hG
          have hgl : getE l = restF f (ns ++ [0]) d' r' := by rw [HRST.out, hg]; rfl
          have hdl : d'.length = 32 := (take_put hg).2
          have HDL := Lib.hid hdl
          have HG := Lib.hid hG
          have HGL := Lib.hid hgl
          clear hG hg HGS hgl hdl
          go_wp2_with (first
            | (refine wpList_store_new rfl 61 (.tmp 9) _ rfl gs rfl rfl 61 _ (by rw [HZ4.out]; exact infoGot) HZ4.out.symm HONE4.out ?_; intro W5 hrow5 hb5 hs5; obtain ⟨a1, c1, a2, c2, hga, -, k1, -, k3, k4⟩ := HG.out.lay HDL.out (by omega) hrow5 hb5; have HB5 := Lib.hid hb5; have hrg : W5.rangeAt w4.heap.size 3 (d'.map bv) := got_range HDL.out hga.row; have HRG := Lib.hid hrg; clear hrg; have HLF := Lib.hid hga.lf; have HOV := Lib.hid ((own_below HI4.out.v hb5).alloc (.cells #[.int .u64 0] 32)); have HI5 := Lib.hid (HI4.out.below hb5); have hs5' : w4.heap.size + 1 ≤ W5.heap.size := (by omega); clear hga hrow5 hb5 hs5)
            | (at_builtin; go_must (refine wpList_append_sl _ rfl _ _ 176 rfl (w.heap.size + 3) 32 i0 (.int .u64 0) 1 8 Try.underlying176 hi hz0 hz1 hz2 rfl (by decide) _ _ _ rfl HOV.out (W5.heap.size + 1) (some ⟨W5.heap.size, 0, none⟩) 1 1 [.int .u64 0] rfl (slAt_one W5 _ _) (one_oneCell rfl) (by unfold maxLen; omega) (by omega) (by simp; omega) ?_); intro a6 c6 w6 hown6 hgrow6 hat6; have HOWN6 := Lib.hid hown6; have HGR6 := Lib.hid hgrow6; have hr6 : w6.rangeAt w4.heap.size 3 (d'.map bv) := range_grown (World.rangeAt_alloc HRG.out _) hgrow6 (by simp; omega) (fun e => by have h9 : w4.heap.size < w4.heap.size := (own_lt HI4.out.v e.symm).2; omega); have HR6 := Lib.hid hr6; clear hr6; clear hown6 hgrow6 hat6)
            | (refine wpList_load_mid rfl 56 _ rfl w4.heap.size 3 rfl (d'.map bv) _ HR6.out Try.underlying56 rfl (by rw [List.length_map, HDL.out]; exact infoId) ?_)
            | (refine wpList_store_abs rfl 56 (.tmp 6) _ rfl (w.heap.size + 1 + 1) (d'.map bv).toArray rfl rfl 56 _ (((HGR6.out.block (w.heap.size + 1 + 1) (by simp; omega) (fun e => by have h9 := (own_lt HI4.out.v e.symm).1; omega)).trans (heap_alloc_old _ _ (by omega))).trans HI5.out.box) (by rw [List.size_toArray, List.length_map, HDL.out]; exact infoId) (by simp [HDL.out, HI5.out.dl]) (bvs_one _) ?_; intro W7 hrow7 hoth7 hb7 hs7; have HROW7 := Lib.hid hrow7; have HOTH7 := Lib.hid hoth7; have HB7 := Lib.hid hb7; clear hrow7 hoth7 hb7))
          have hs6 := HGR6.out.size
          simp only [World.size_alloc] at hs6
          have hB6 : Below (w.heap.size + 2) W5 w6 := ((Below.refl _ W5).alloc (show w.heap.size + 2 ≤ W5.heap.size by omega) (.cells #[.int .u64 0] 32)).grown HGR6.out (by simp; omega) (fun k hk => by have h9 := (own_lt HI4.out.v hk).1; omega)
          have hB7 : Below (w.heap.size + 2) W5 W7 := hB6.trans (HB7.out.mono (by omega))
          have hown7 : W7.ownsRow (w.heap.size + 3) 32 1 (.slice a6 3 c6) 3 ((ns ++ [0]).map nv) := by
            have h9 := HOWN6.out
            rw [List.map_append]
            exact World.ownsRow.kept h9 (row := some (w.heap.size + 1 + 1)) ⟨HB7.out.os, HB7.out.tape, HB7.out.output, by omega, fun k hk hne => HOTH7.out k (fun e => hne (by rw [e]))⟩ (.inr fun e => by have h10 := (own_lt h9 e).1; omega)
          have hf5 : 5 - 2 = f := by have := HF.out; omega
          have HIN := Lib.hid (HI5.out.step (by omega) (v := 0) (Nat.zero_le _) HDL.out (by rw [hf5]; exact HGL.out) HLF.out hB7 hown7 HROW7.out)
          clear hB6 hB7 hown7 k1 k3 k4
          go_wp2
          go_roundw
          case rel => exact ⟨3, ns ++ [0], d', r', a2, a6, c2, c6, by go_num, rfl, rfl, HIN.out⟩
          case measure => simp [intOf]
      · have hf3 : f ≠ 3 := by have := HF.out; omega
        have hj5 : 5 - f = j := by have := HF.out; omega
        have hrst2 : getE l = (getNum (mostAt j) r).bind fun v r' => restF f (ns ++ [v]) d r' := by rw [hrst]; simp only [restF, if_neg hf3, hj5]
        have HRST := Lib.hid hrst2
        have t2 : ((j : Int) == 2) = false := by simp; omega
        have hk0 : (0 : Int) ≤ (j : Int) := by omega
        have hk1 : (j : Int) < 6 := by omega
        clear hrst hrst2 hf3 hj5 h2
        go_wp2_with (first
          | (refine wpList_build_l rfl 58 [(1, .tmp 18)] rfl [(1, .int .u64 ((mostAt j) : Nat))] rfl (askC 0 (mostAt j)) (built_ask _) ?_)
          | (refine wpList_store_new rfl 58 (.tmp 8) (.tmp 19) rfl (askC 0 (mostAt j)) rfl rfl 58 _ (by rw [askC_size]; exact infoField) (askC_size _ _).symm (askC_one _ _) ?_; intro W3 hrow2 hb3 hs3; have HRL := Lib.hid hrow2; clear hrow2)
          | (refine wpList_load_is rfl 58 (.tmp 8) rfl wr.heap.size rfl 58 (askC 0 (mostAt j)) _ HRL.out Try.underlying58 rfl (by rw [askC_size]; exact infoField) ?_))
        have HB3 := Lib.hid hb3
        have hszr := HI.out.sz
        refine (refTake 0 r ba r.length bc askF (mostAt j) askF_len _ w.heap.size (by omega) (HI.out.b.below (HB3.out.mono (by omega)) (Nat.le_refl _))).mono ?_
        rintro e w4 ⟨gs, rfl, hgs, hb4⟩
        have hs4 := hb4.size
        obtain ⟨hz4, hone4⟩ := hgs.parts (takeP_d _ _ _)
        have HGS := Lib.hid hgs
        have HZ4 := Lib.hid hz4
        have HONE4 := Lib.hid hone4
        have HB4 := Lib.hid (HB3.out.trans (hb4.mono (by omega)))
        have HI4 := Lib.hid (HI.out.below HB4.out)
        clear hgs hz4 hone4 hb4 hb3
        cases hg : getNum (mostAt j) r with
        | err x =>
          have hx : x ≠ 0 := by have := getNum_errs hg; omega
          have hG := HGS.out
          rw [takeP_num_err hg] at hG
          have hgl : getE l = .err x := by rw [HRST.out, hg]; rfl
          have hO : O = (zeroE, x) := by rw [HO.out, hgl]; rfl
          subst hO
          have HG := Lib.hid hG
          have t3 : (x != 0) = true := by simpa using hx
          clear hG hg HGS hx hgl
          go_wp2_with (refine wpList_store_new rfl 61 (.tmp 9) _ rfl gs rfl rfl 61 _ (by rw [HZ4.out]; exact infoGot) HZ4.out.symm HONE4.out ?_; intro W5 hrow5 hb5 hs5; obtain ⟨a1, c1, a2, c2, hga, -, -, -, k3, k4⟩ := HG.out.lay (by simp [zeros32]) (by omega) hrow5 hb5; have HB5 := Lib.hid hb5; clear hga hrow5 hb5 k4)
          have hd := (HB5.out.block w.heap.size (by omega)).trans HI4.out.res
          have HD := Lib.hid hd
          have hS0 : W5.drew.cell? ⟨w4.heap.size, 35, none⟩ = some (.int .i64 x) := k3
          clear hd
          refine wp_region_any (by kernel_rfl) ?_
          refine wpAny_of_held (S := fun w' => w'.cell? ⟨w4.heap.size, 35, none⟩ = some (.int .i64 x)) _ _ _ _ ?_
          refine heldTake 0 29 (v := .agg (eagg zeroE)) rfl rfl (by kernel_rfl) (by kernel_rfl) (by kernel_rfl) (fun _ _ _ h => h) hS0 (.inl ⟨by rfl, by intro w' hS; go_simp; all_goals rfl⟩) ?_
          simp only [List.set_cons_zero, List.set_cons_succ]
          refine heldTake 1 30 rfl rfl (by kernel_rfl) (by kernel_rfl) (by kernel_rfl) (fun _ _ _ h => h) hS0 (.inl ⟨by rfl, by intro w' hS; (try dsimp only at hS); go_simp; (try rfl)⟩) ?_
          simp only [List.set_cons_zero, List.set_cons_succ]
          refine heldTake 2 31 rfl rfl (by kernel_rfl) (by kernel_rfl) (by kernel_rfl) (fun _ _ _ h => h) hS0 (.inl ⟨by rfl, by intro w' hS; (try dsimp only at hS); go_simp; (try rfl)⟩) ?_
          simp only [List.set_cons_zero, List.set_cons_succ]
          refine heldOne 3 (by kernel_rfl) rfl (by rfl) ?_
          refine wp_store_row 68 (.tmp 2) (.tmp 29) rfl w.heap.size (eagg zeroE) rfl rfl 68 _ HD.out (by rw [HZS.out]; exact infoEntry) (by rw [HZS.out]) (eagg_one _) ?_
          have hS1 : (W5.drew.setRow w.heap.size (eagg zeroE)).cell? ⟨w4.heap.size, 35, none⟩ = some (.int .i64 x) := (World.cell?_of_block (a := ⟨w4.heap.size, 35, none⟩) (setRow_other _ _ _ _ (by show w4.heap.size ≠ w.heap.size; omega))).trans hS0
          refine ⟨hS1, ?_⟩
          refine heldTake 4 3 rfl rfl (by kernel_rfl) (by kernel_rfl) (by kernel_rfl) (fun _ _ _ h => h) hS1 (.inl ⟨by rfl, by intro w' hS; (try dsimp only at hS); go_simp; (try rfl)⟩) ?_
          simp only [List.set_cons_zero, List.set_cons_succ]
          refine wpAnyH_done (by kernel_rfl) ?_ _
          have HROWF := Lib.hid (setRow_heap W5.drew w.heap.size _ (eagg zeroE) 68 _ HD.out)
          have HBF := Lib.hid (HI4.out.bel.trans ((HB5.out.mono (show w.heap.size ≤ w4.heap.size by omega)).trans ((Below.refl _ W5).drew.trans (below_setRow W5.drew (eagg zeroE) (Nat.le_refl _)))))
          clear k3 hS0 hS1
          go_wp2
          refine bodyPost_ret (results_row_tmp rfl _ _ w.heap.size 68 _ (0, 0) _ rfl HROWF.out Try.underlying68 rfl (by rw [HZS.out]; exact infoEntry)) rfl ⟨rfl, HBF.out⟩
        | ok v r' =>
          have HV := Lib.hid (getNum_most hg)
          have hG := HGS.out
          rw [takeP_num_ok hg] at hG
          have hgl : getE l = restF f (ns ++ [v]) d r' := by rw [HRST.out, hg]; rfl
          have HG := Lib.hid hG
          have HGL := Lib.hid hgl
          clear hG hg HGS hgl
          go_wp2_with (first
            | (refine wpList_store_new rfl 61 (.tmp 9) _ rfl gs rfl rfl 61 _ (by rw [HZ4.out]; exact infoGot) HZ4.out.symm HONE4.out ?_; intro W5 hrow5 hb5 hs5; obtain ⟨a1, c1, a2, c2, hga, -, k1, -, k3, k4⟩ := HG.out.lay (by simp [zeros32]) (by omega) hrow5 hb5; have HB5 := Lib.hid hb5; have HLF := Lib.hid hga.lf; have HOV := Lib.hid ((own_below HI4.out.v hb5).alloc (.cells #[.int .u64 (v : Int)] 32)); have HI5 := Lib.hid (HI4.out.below hb5); have hs5' : w4.heap.size + 1 ≤ W5.heap.size := (by omega); clear hga hrow5 hb5 hs5)
            | (at_builtin; go_must (refine wpList_append_sl _ rfl _ _ 176 rfl (w.heap.size + 3) 32 i0 (.int .u64 0) 1 8 Try.underlying176 hi hz0 hz1 hz2 rfl (by decide) _ _ _ rfl HOV.out (W5.heap.size + 1) (some ⟨W5.heap.size, 0, none⟩) 1 1 [.int .u64 (v : Int)] rfl (slAt_one W5 _ _) (one_oneCell rfl) (by unfold maxLen; omega) (by omega) (by simp; omega) ?_); intro a6 c6 w6 hown6 hgrow6 hat6; have HOWN6 := Lib.hid hown6; have HGR6 := Lib.hid hgrow6; clear hown6 hgrow6 hat6))
          have hs6 := HGR6.out.size
          simp only [World.size_alloc] at hs6
          have hB6 : Below (w.heap.size + 2) W5 w6 := ((Below.refl _ W5).alloc (show w.heap.size + 2 ≤ W5.heap.size by omega) (.cells #[.int .u64 (v : Int)] 32)).grown HGR6.out (by simp; omega) (fun k hk => by have h9 := (own_lt HI4.out.v hk).1; omega)
          have hbox6 : w6.heap[w.heap.size + 2]? = some (.cells (d.map bv).toArray 56 (0, 0)) := ((HGR6.out.block (w.heap.size + 2) (by simp; omega) (fun e => by have h9 := (own_lt HI4.out.v e.symm).1; omega)).trans (heap_alloc_old _ _ (by omega))).trans HI5.out.box
          have hf5 : 5 - j = f := by have := HF.out; omega
          have HIN := Lib.hid (HI5.out.step hlt HV.out HI.out.dl (by rw [hf5]; exact HGL.out) HLF.out hB6 (by rw [List.map_append]; exact HOWN6.out) hbox6)
          clear hB6 hbox6 k1 k3 k4
          go_roundw
          case rel => exact ⟨j + 1, ns ++ [v], d, r', a2, a6, c2, c6, by go_num, rfl, rfl, HIN.out⟩
          case measure => simp [intOf]; omega
    · have hj : j = 6 := by omega
      subst hj
      obtain ⟨n0, n1, n2, n3, n4, n5, rfl⟩ := six hnl
      have hge : getE l = .ok ⟨(n0 : Nat), (n1 : Nat), d, n3, (n4 : Nat), (n5 : Nat)⟩ r := by rw [HI.out.rest]; rfl
      have b0 : n0 ≤ 3 := HI.out.bd 0 n0 rfl
      have b1 : n1 ≤ 63 := HI.out.bd 1 n1 rfl
      have b4 : n4 ≤ 63 := HI.out.bd 4 n4 rfl
      have b5 : n5 ≤ 1099511627776 := HI.out.bd 5 n5 rfl
      obtain ⟨a9, c9, e9, hs9⟩ := SlAt.ofOwns HI.out.v
      injection e9 with e10 _ e12
      subst e10; subst e12
      obtain ⟨vb, vo, rfl, hvb, hvc⟩ := hs9.hat (by simp)
      have v0 : wr.cell? ⟨vb, vo, none⟩ = some (.int .u64 n0) := hvc 0 (by simp)
      have v1 : wr.cell? ⟨vb, vo + 1, none⟩ = some (.int .u64 n1) := hvc 1 (by simp)
      have v3 : wr.cell? ⟨vb, vo + 3, none⟩ = some (.int .u64 n3) := hvc 3 (by simp)
      have v4 : wr.cell? ⟨vb, vo + 4, none⟩ = some (.int .u64 n4) := hvc 4 (by simp)
      have v5 : wr.cell? ⟨vb, vo + 5, none⟩ = some (.int .u64 n5) := hvc 5 (by simp)
      have HLS := Lib.hid (show LastS w vb vo n0 n1 n3 n4 n5 d wr from ⟨v0, v1, v3, v4, v5, HI.out.box⟩)
      have HGE := Lib.hid hge
      have HDL := Lib.hid HI.out.dl
      have HRES := Lib.hid HI.out.res
      clear hvc hs9 hmost v1 v3 v4 v5 hge
      by_cases hr0 : r = []
      · have t5 : decide (0 < r.length) = false := by rw [hr0]; rfl
        by_cases hn0 : n0 = 0
        · have hO : O = (zeroE, 3) := by rw [HO.out, HGE.out]; simp [outE, hr0, hn0]
          have t6 : ((n0 : Int) == 0) = true := by simp; omega
          subst hO
          clear hr0 hn0
          go_wp2_with (first
            | (refine wpList_build_l rfl 68 [] rfl [] rfl (eagg zeroE) built_zeroE ?_)
            | (refine wpList_store_abs rfl 68 (.tmp 2) _ rfl w.heap.size (eagg zeroE) rfl rfl 68 _ HRES.out (by rw [HZS.out]; exact infoEntry) (by rw [HZS.out]) (eagg_one _) ?_; intro W5 hrow5 hoth5 hb5 hs5))
          refine bodyPost_ret (results_row_tmp rfl _ _ w.heap.size 68 _ (0, 0) _ rfl hrow5 Try.underlying68 rfl (by rw [HZS.out]; exact infoEntry)) rfl ⟨rfl, HI.out.bel.trans hb5⟩
        · have hO : O = (⟨(n0 : Nat), (n1 : Nat), d, n3, (n4 : Nat), (n5 : Nat)⟩, 0) := by
            rw [HO.out, HGE.out]
            simp only [outE]
            rw [if_pos ⟨hr0, by show (n0 : Int) ≠ 0; omega⟩]
          have t6 : ((n0 : Int) == 0) = false := by simp; omega
          have HHO := Lib.hid hO
          clear hr0 hn0 hO
          go_wp2_with fail
          have HBW := Lib.hid HI.out.bel
          have hw0 : IntKind.i64.wrap (n0 : Int) = n0 := IntWalk.i64_in _ (by omega)
          have hw1 : IntKind.i64.wrap (n1 : Int) = n1 := IntWalk.i64_in _ (by omega)
          have hw4 : IntKind.i64.wrap (n4 : Int) = n4 := IntWalk.i64_in _ (by omega)
          have hw5 : IntKind.i64.wrap (n5 : Int) = n5 := IntWalk.i64_in _ (by omega)
          refine wp_region_any (by kernel_rfl) ?_
          refine wpAny_of_held (S := LastS w vb vo n0 n1 n3 n4 n5 d) _ _ _ _ ?_
          have hS0 : LastS w vb vo n0 n1 n3 n4 n5 d wr.drew := ⟨HLS.out.v0, HLS.out.v1, HLS.out.v3, HLS.out.v4, HLS.out.v5, HLS.out.box⟩
          refine heldTake 0 55 rfl rfl (by kernel_rfl) (by kernel_rfl) (by kernel_rfl) (fun _ _ _ h => h) hS0 (.inl ⟨by rfl, by intro w' hS; obtain ⟨s1, s2, s3, s4, s5, s6⟩ := hS; go_simp; (try rfl)⟩) ?_
          simp only [List.set_cons_zero, List.set_cons_succ]
          refine heldTake 1 56 rfl rfl (by kernel_rfl) (by kernel_rfl) (by kernel_rfl) (fun _ _ _ h => h) hS0 (.inl ⟨by rfl, by intro w' hS; obtain ⟨s1, s2, s3, s4, s5, s6⟩ := hS; go_simp; (try rfl)⟩) ?_
          simp only [List.set_cons_zero, List.set_cons_succ]
          refine heldTake 2 57 rfl rfl (by kernel_rfl) (by kernel_rfl) (by kernel_rfl) (fun _ _ _ h => h) hS0 (.inl ⟨by rfl, by intro w' hS; obtain ⟨s1, s2, s3, s4, s5, s6⟩ := hS; go_simp; (try rfl)⟩) ?_
          simp only [List.set_cons_zero, List.set_cons_succ]
          refine heldTake 3 58 rfl rfl (by kernel_rfl) (by kernel_rfl) (by kernel_rfl) (fun _ _ _ h => h) hS0 (.inl ⟨by rfl, by intro w' hS; obtain ⟨s1, s2, s3, s4, s5, s6⟩ := hS; go_simp; (try rfl)⟩) ?_
          simp only [List.set_cons_zero, List.set_cons_succ]
          refine heldTake 4 59 rfl rfl (by kernel_rfl) (by kernel_rfl) (by kernel_rfl) (fun _ _ _ h => h) hS0 (.inl ⟨by rfl, by intro w' hS; obtain ⟨s1, s2, s3, s4, s5, s6⟩ := hS; go_simp; (try rfl)⟩) ?_
          simp only [List.set_cons_zero, List.set_cons_succ]
          refine heldTake 5 60 rfl rfl (by kernel_rfl) (by kernel_rfl) (by kernel_rfl) (fun _ _ _ h => h) hS0 (.inl ⟨by rfl, by intro w' hS; obtain ⟨s1, s2, s3, s4, s5, s6⟩ := hS; go_simp; (try rfl)⟩) ?_
          simp only [List.set_cons_zero, List.set_cons_succ]
          refine heldTake 6 61 rfl rfl (by kernel_rfl) (by kernel_rfl) (by kernel_rfl) (fun _ _ _ h => h) hS0 (.inl ⟨by rfl, by intro w' hS; obtain ⟨s1, s2, s3, s4, s5, s6⟩ := hS; go_simp; (try rfl)⟩) ?_
          simp only [List.set_cons_zero, List.set_cons_succ]
          refine heldTake 7 62 rfl rfl (by kernel_rfl) (by kernel_rfl) (by kernel_rfl) (fun _ _ _ h => h) hS0 (.inl ⟨by rfl, by intro w' hS; obtain ⟨s1, s2, s3, s4, s5, s6⟩ := hS; go_simp; (try rfl)⟩) ?_
          simp only [List.set_cons_zero, List.set_cons_succ]
          refine heldTake 8 63 rfl rfl (by kernel_rfl) (by kernel_rfl) (by kernel_rfl) (fun _ _ _ h => h) hS0 (yieldsIf_load_is (by rfl) 56 (.tmp 6) rfl (w.heap.size + 1 + 1) rfl 56 (d.map bv).toArray _ (fun _ h => h.box) Try.underlying56 rfl (by rw [List.size_toArray, List.length_map, HDL.out]; exact infoId)) ?_
          simp only [List.set_cons_zero, List.set_cons_succ]
          refine heldTake 9 64 rfl rfl (by kernel_rfl) (by kernel_rfl) (by kernel_rfl) (fun _ _ _ h => h) hS0 (.inl ⟨by rfl, by intro w' hS; obtain ⟨s1, s2, s3, s4, s5, s6⟩ := hS; go_simp; (try rfl)⟩) ?_
          simp only [List.set_cons_zero, List.set_cons_succ]
          refine heldTake 10 65 rfl rfl (by kernel_rfl) (by kernel_rfl) (by kernel_rfl) (fun _ _ _ h => h) hS0 (.inl ⟨by rfl, by intro w' hS; obtain ⟨s1, s2, s3, s4, s5, s6⟩ := hS; go_simp; (try rfl)⟩) ?_
          simp only [List.set_cons_zero, List.set_cons_succ]
          refine heldTake 11 66 rfl rfl (by kernel_rfl) (by kernel_rfl) (by kernel_rfl) (fun _ _ _ h => h) hS0 (.inl ⟨by rfl, by intro w' hS; obtain ⟨s1, s2, s3, s4, s5, s6⟩ := hS; go_simp; (try rfl)⟩) ?_
          simp only [List.set_cons_zero, List.set_cons_succ]
          refine heldTake 12 67 rfl rfl (by kernel_rfl) (by kernel_rfl) (by kernel_rfl) (fun _ _ _ h => h) hS0 (.inl ⟨by rfl, by intro w' hS; obtain ⟨s1, s2, s3, s4, s5, s6⟩ := hS; go_simp; (try rfl)⟩) ?_
          simp only [List.set_cons_zero, List.set_cons_succ]
          refine heldTake 13 68 rfl rfl (by kernel_rfl) (by kernel_rfl) (by kernel_rfl) (fun _ _ _ h => h) hS0 (.inl ⟨by rfl, by intro w' hS; obtain ⟨s1, s2, s3, s4, s5, s6⟩ := hS; go_simp; (try rfl)⟩) ?_
          simp only [List.set_cons_zero, List.set_cons_succ]
          refine heldTake 14 69 rfl rfl (by kernel_rfl) (by kernel_rfl) (by kernel_rfl) (fun _ _ _ h => h) hS0 (.inl ⟨by rfl, by intro w' hS; obtain ⟨s1, s2, s3, s4, s5, s6⟩ := hS; go_simp; (try rfl)⟩) ?_
          simp only [List.set_cons_zero, List.set_cons_succ]
          refine heldTake 15 70 rfl rfl (by kernel_rfl) (by kernel_rfl) (by kernel_rfl) (fun _ _ _ h => h) hS0 (.inl ⟨by rfl, by intro w' hS; obtain ⟨s1, s2, s3, s4, s5, s6⟩ := hS; go_simp; (try rfl)⟩) ?_
          simp only [List.set_cons_zero, List.set_cons_succ]
          refine heldTake 16 71 rfl rfl (by kernel_rfl) (by kernel_rfl) (by kernel_rfl) (fun _ _ _ h => h) hS0 (.inl ⟨by rfl, by intro w' hS; obtain ⟨s1, s2, s3, s4, s5, s6⟩ := hS; go_simp; (try rfl)⟩) ?_
          simp only [List.set_cons_zero, List.set_cons_succ]
          refine heldTake 17 72 rfl rfl (by kernel_rfl) (by kernel_rfl) (by kernel_rfl) (fun _ _ _ h => h) hS0 (.inl ⟨by rfl, by intro w' hS; obtain ⟨s1, s2, s3, s4, s5, s6⟩ := hS; go_simp; (try rfl)⟩) ?_
          simp only [List.set_cons_zero, List.set_cons_succ]
          refine heldTake 18 73 rfl rfl (by kernel_rfl) (by kernel_rfl) (by kernel_rfl) (fun _ _ _ h => h) hS0 (.inl ⟨by rfl, by intro w' hS; obtain ⟨s1, s2, s3, s4, s5, s6⟩ := hS; go_simp; (try rfl)⟩) ?_
          simp only [List.set_cons_zero, List.set_cons_succ]
          refine heldTake 19 74 rfl rfl (by kernel_rfl) (by kernel_rfl) (by kernel_rfl) (fun _ _ _ h => h) hS0 (.inl ⟨by rfl, by intro w' hS; obtain ⟨s1, s2, s3, s4, s5, s6⟩ := hS; go_simp; (try rfl)⟩) ?_
          simp only [List.set_cons_zero, List.set_cons_succ]
          refine heldOne 20 (by kernel_rfl) rfl (by rfl) ?_
          refine wp_build_l 68 [(0, .tmp 58), (1, .tmp 62), (2, .tmp 63), (3, .tmp 66), (4, .tmp 70), (5, .tmp 74)] rfl [(0, .int .i64 n0), (1, .int .i64 n1), (2, .agg (d.map bv).toArray), (3, .int .u64 (n3 : Int)), (4, .int .i64 n4), (5, .int .i64 n5)] rfl (eagg ⟨(n0 : Nat), (n1 : Nat), d, n3, (n4 : Nat), (n5 : Nat)⟩) (built_entry _ _ _ _ _ _ HDL.out) ?_
          refine ⟨hS0, ?_⟩
          refine heldOne 21 (by kernel_rfl) rfl (by rfl) ?_
          obtain ⟨E, hE⟩ : ∃ E : PEntry, E = ⟨(n0 : Nat), (n1 : Nat), d, n3, (n4 : Nat), (n5 : Nat)⟩ := ⟨_, rfl⟩
          rw [← hE] at HHO ⊢
          have HES := Lib.hid (eagg_size E (by rw [hE]; exact HDL.out))
          refine wp_store_row 68 (.tmp 2) (.tmp 75) rfl w.heap.size (eagg E) rfl rfl 68 _ HRES.out (by rw [HES.out]; exact infoEntry) (by rw [HZS.out, HES.out]) (eagg_one _) ?_
          have hS1 : LastS w vb vo n0 n1 n3 n4 n5 d (wr.drew.setRow w.heap.size (eagg E)) := by
            have hne : vb ≠ w.heap.size := (by have h9 : w.heap.size + 3 ≤ vb := (own_lt HI.out.v (g := vb) rfl).1; clear hw0 hw1 hw4 hw5; exact fun e => by rw [e] at h9; exact absurd h9 (by omega))
            have hc : ∀ o, (wr.drew.setRow w.heap.size (eagg E)).cell? ⟨vb, o, none⟩ = wr.cell? ⟨vb, o, none⟩ := fun o => World.cell?_of_block (a := ⟨vb, o, none⟩) (setRow_other _ _ _ _ hne)
            exact ⟨(hc _).trans HLS.out.v0, (hc _).trans HLS.out.v1, (hc _).trans HLS.out.v3, (hc _).trans HLS.out.v4, (hc _).trans HLS.out.v5, (setRow_other _ _ _ _ (by omega)).trans HLS.out.box⟩
          refine ⟨hS1, ?_⟩
          refine heldTake 22 3 rfl rfl (by kernel_rfl) (by kernel_rfl) (by kernel_rfl) (fun _ _ _ h => h) hS1 (.inl ⟨by rfl, by intro w' hS; obtain ⟨s1, s2, s3, s4, s5, s6⟩ := hS; go_simp; (try rfl)⟩) ?_
          simp only [List.set_cons_zero, List.set_cons_succ]
          refine wpAnyH_done (by kernel_rfl) ?_ _
          have HROWF := Lib.hid (setRow_heap wr.drew w.heap.size _ (eagg E) 68 _ HRES.out)
          have HBF := Lib.hid (HBW.out.trans ((Below.refl _ wr).drew.trans (below_setRow wr.drew (eagg E) (Nat.le_refl _))))
          clear hS0 hS1 hE
          go_wp2
          refine bodyPost_ret (results_row_tmp rfl _ _ w.heap.size 68 _ (0, 0) _ rfl HROWF.out Try.underlying68 rfl (by rw [HES.out]; exact infoEntry)) rfl ⟨by rw [HHO.out]; rfl, HBF.out⟩
      · have t5 : decide (0 < r.length) = true := by
          have := List.length_pos_iff.2 hr0
          simp; omega
        have hO : O = (zeroE, 3) := by rw [HO.out, HGE.out]; simp [outE, hr0]
        subst hO
        clear hr0 v0
        go_wp2_with (first
          | (refine wpList_build_l rfl 68 [] rfl [] rfl (eagg zeroE) built_zeroE ?_)
          | (refine wpList_store_abs rfl 68 (.tmp 2) _ rfl w.heap.size (eagg zeroE) rfl rfl 68 _ HRES.out (by rw [HZS.out]; exact infoEntry) (by rw [HZS.out]) (eagg_one _) ?_; intro W5 hrow5 hoth5 hb5 hs5))
        refine bodyPost_ret (results_row_tmp rfl _ _ w.heap.size 68 _ (0, 0) _ rfl hrow5 Try.underlying68 rfl (by rw [HZS.out]; exact infoEntry)) rfl ⟨rfl, HI.out.bel.trans hb5⟩
end Go.Proofs.Ytogcnfhmcpkdcaa
