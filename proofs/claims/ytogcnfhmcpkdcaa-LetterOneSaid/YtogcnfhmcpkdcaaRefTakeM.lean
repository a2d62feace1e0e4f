/-
  Contract of the reference's Take: the next field.
  Contract of the reference's Take, a digest; and all of Take.
  The cells of what the reference's Take hands back.
  A field that is asked for, as cells.
-/
import Derived.Test.YtogcnfhmcpkdcaaField4
import Derived.Test.YtogcnfhmcpkdcaaFieldId
import Derived.Test.YtogcnfhmcpkdcaaPen3
import Derived.Test.YtogcnfhmcpkdcaaFieldW
import Derived.Test.YtogcnfhmcpkdcaaSliceOps
import Derived.StillTailTactics
import Derived.Deep.DeepMust
namespace Go.Proofs.Ytogcnfhmcpkdcaa
open Go.RowKit
set_option linter.unusedVariables false

def zeros32 : List UInt8 := List.replicate 32 0

/-- what the reference's Take hands back -/
structure PGot where
  k : Int
  n : Nat
  t : List UInt8
  d : List UInt8
  e : Int
  left : List UInt8

def PGot.bad (x : Int) : PGot := ⟨0, 0, [], zeros32, x, []⟩

def takeP (k : Int) (N : Nat) (l : List UInt8) : PGot :=
  if k = 2 then match getTake 32 l with
    | .err x => .bad x
    | .ok d r => ⟨2, 0, [], d, 0, r⟩
  else if k = 0 then match getNum N l with
    | .err x => .bad x
    | .ok v r => ⟨0, v, [], zeros32, 0, r⟩
  else match getText N l with
    | .err x => .bad x
    | .ok t r => ⟨1, 0, t, zeros32, 0, r⟩

/-- the cells of a Got -/
def gotCells (k : Int) (n : Nat) (sv : Value) (d : List UInt8) (e : Int) (lv : Value) : List Value :=
  .int .i64 k :: .int .u64 n :: sv :: (d.map bv ++ [.int .i64 e, lv])

/-- the cells gs are what g says -/
def GotIs (w : World) (B : Nat) (gs : Array Value) (g : PGot) : Prop :=
  ∃ a c a' c', gs = (gotCells g.k g.n (.slice a g.t.length c) g.d g.e (.slice a' g.left.length c')).toArray ∧ BsAt w B a g.t.length c g.t ∧ BsAt w B a' g.left.length c' g.left

theorem GotIs.below {w w' : World} {B B' : Nat} {gs : Array Value} {g : PGot} (h : GotIs w B gs g) (hb : Below B' w w') (hB : B ≤ B') : GotIs w' B gs g := by
  obtain ⟨a, c, a', c', h1, h2, h3⟩ := h
  exact ⟨a, c, a', c', h1, h2.below hb hB, h3.below hb hB⟩

theorem gotIs_bad (w : World) (B : Nat) (x : Int) : GotIs w B (gotCells 0 0 (.slice none 0 0) zeros32 x (.slice none 0 0)).toArray (.bad x) :=
  ⟨none, 0, none, 0, rfl, BsAt.zero _ _ _ _ (by simp [maxLen]) (fun _ => rfl), BsAt.zero _ _ _ _ (by simp [maxLen]) (fun _ => rfl)⟩

/-- what is handed back for an error -/
def badCells (x : Int) : Array Value := (gotCells 0 0 (.slice none 0 0) zeros32 x (.slice none 0 0)).toArray

theorem infoGot : (Try.prog.info? 61).map (·.size) = some 37 := by kernel_rfl
theorem infoU8s : (Try.prog.info? 5).map (·.size) = some 1 := by kernel_rfl
theorem infoField : (Try.prog.info? 58).map (·.size) = some 35 := by kernel_rfl
theorem built_bad (x : Int) : Try.prog.built 61 [(1, .int .i64 x)] = some (badCells x) := by kernel_rfl
theorem badCells_size (x : Int) : (badCells x).size = 37 := by rfl
theorem badCells_one (x : Int) : (badCells x).all (·.oneCell') = true := by simp [badCells, gotCells, zeros32, Value.oneCell']

/-- what is handed back for a number or a text -/
def valCells (k : Int) (n : Nat) (sv lv : Value) : Array Value := (gotCells k n sv zeros32 0 lv).toArray
theorem valCells_size (k : Int) (n : Nat) (sv lv : Value) : (valCells k n sv lv).size = 37 := by rfl
theorem valCells_one (k : Int) (n : Nat) (a : Option Addr) (m c : Nat) (a' : Option Addr) (m' c' : Nat) : (valCells k n (.slice a m c) (.slice a' m' c')).all (·.oneCell') = true := by simp [valCells, gotCells, zeros32, Value.oneCell']

theorem takeP_cons {kk : Int} {N : Nat} {k : UInt8} {r : List UInt8} (hkn : kk ≠ 2) (h8 : ¬ 8 < k.toNat) (hsh : ¬ r.length < k.toNat) : takeP kk N (k :: r) =
    if 0 < k.toNat ∧ r.getD 0 0 = 0 then .bad 3 else if N < be (r.take k.toNat) then .bad 5 else if kk = 0 then ⟨0, be (r.take k.toNat), [], zeros32, 0, r.drop k.toNat⟩ else
      if (r.drop k.toNat).length < be (r.take k.toNat) then .bad 2 else ⟨1, 0, (r.drop k.toNat).take (be (r.take k.toNat)), zeros32, 0, (r.drop k.toNat).drop (be (r.take k.toNat))⟩ := by
  unfold takeP
  rw [if_neg hkn]
  simp only [getText, getTake, getNum, if_neg h8, if_neg hsh]
  by_cases hz : 0 < k.toNat ∧ r.getD 0 0 = 0
  · simp only [if_pos hz, ite_self]
  · simp only [if_neg hz]
    by_cases hN : N < be (r.take k.toNat)
    · simp only [if_pos hN, ite_self]
    · simp only [if_neg hN]
      by_cases h0 : kk = 0
      · simp only [if_pos h0]
      · simp only [if_neg h0]
        by_cases hd : (r.drop k.toNat).length < be (r.take k.toNat)
        · simp only [if_pos hd]
        · simp only [if_neg hd]

/-- the end of a walk that hands back an error -/
theorem take_bad {w : World} {x : Int} {cs old : Array Value} {T : TypeId} {B : Nat} (hB : B ≤ w.heap.size) : GotIs (((w.alloc (.cells cs T)).alloc (.cells old 61)).setRow (w.heap.size + 1) (badCells x)) B (badCells x) (.bad x) ∧ Below w.heap.size w (((w.alloc (.cells cs T)).alloc (.cells old 61)).setRow (w.heap.size + 1) (badCells x)) :=
  ⟨gotIs_bad _ _ _, (((Below.refl _ w).alloc (Nat.le_refl _) _).alloc (by simp) _).trans (below_setRow _ _ (by omega))⟩

set_option maxRecDepth 100000 in
set_option maxHeartbeats 4000000 in
theorem refTakeN (kk : Int) (hk2 : (kk == 2) = false) (l : List UInt8) (a : Option Addr) (n c : Nat) (F : List Value) (N : Nat) (hF : F.length = 33) (w : World) (B : Nat) (hB : B ≤ w.heap.size) (h : BsAt w B a n c l) :
    Calls Try.prog 39 #[.slice a n c, .agg (.int .i64 kk :: .int .u64 N :: F).toArray] w fun e w' => ∃ gs, e = .returned (.agg gs) ∧ GotIs w' B gs (takeP kk N l) ∧ Below w.heap.size w w' := by
  have hl := h.hlen
  subst hl
  have H := Lib.hid h
  clear h
  obtain ⟨G, hG⟩ : ∃ G, G = takeP kk N l := ⟨_, rfl⟩
  rw [← hG]
  have HG := Lib.hid hG
  clear hG
  have hkn : kk ≠ 2 := by intro e; subst e; cases hk2
  have HKN := Lib.hid hkn
  clear hkn
  cases l with
  | nil =>
    have hG : G = .bad 2 := by rw [HG.out, takeP, if_neg HKN.out]; split <;> rfl
    subst hG
    simp only [List.length_nil] at H ⊢
    go_enter Try.func39, Try.ntmps39
    go_wp2_with (refine wpList_store_row rfl 61 (.tmp 4) _ rfl (w.heap.size + 1) (badCells 2) rfl rfl 61 _ (heap_alloc2_new _ _ _) (by rw [badCells_size]; exact infoGot) (by rw [badCells_size]; rfl) (badCells_one 2) ?_)
    refine bodyPost_ret (results_cell_row rfl _ _ (w.heap.size + 1) 61 (badCells 2) (0, 0) _ rfl (setRow_heap _ _ _ _ _ _ (heap_alloc2_new _ _ _)) Try.underlying61 rfl infoGot) rfl ?_
    exact ⟨_, rfl, take_bad hB⟩
  | cons k r =>
    have hk8 := k.toNat_lt
    obtain ⟨b, o, rfl, hb, hc⟩ := H.out.hat (by simp)
    have hb := Nat.lt_of_lt_of_le hb hB
    have hc0 : w.cell? ⟨b, o, none⟩ = some (.int .u8 (k.toNat : Int)) := by
      have h9 := hc 0 (by simp)
      rw [Nat.add_zero] at h9
      exact h9
    have hlen : (k :: r).length = r.length + 1 := rfl
    rw [hlen] at H ⊢
    have HC := Lib.hid hc
    clear hc hlen
    by_cases h8 : 8 < k.toNat
    · have t1 : decide ((8 : Int) < (k.toNat : Int)) = true := by simp; omega
      have hG : G = .bad 3 := by rw [HG.out, takeP, if_neg HKN.out]; simp [getText, getNum, h8]
      subst hG
      go_enter Try.func39, Try.ntmps39
      go_wp2_with (refine wpList_store_row rfl 61 (.tmp 4) _ rfl (w.heap.size + 1) (badCells 3) rfl rfl 61 _ (heap_alloc2_new _ _ _) (by rw [badCells_size]; exact infoGot) (by rw [badCells_size]; rfl) (badCells_one 3) ?_)
      refine bodyPost_ret (results_cell_row rfl _ _ (w.heap.size + 1) 61 (badCells 3) (0, 0) _ rfl (setRow_heap _ _ _ _ _ _ (heap_alloc2_new _ _ _)) Try.underlying61 rfl infoGot) rfl ?_
      exact ⟨_, rfl, take_bad hB⟩
    · have t1 : decide ((8 : Int) < (k.toNat : Int)) = false := by simp; omega
      by_cases hsh : r.length < k.toNat
      · have t2 : decide ((r.length : Int) + 1 < 1 + (k.toNat : Int)) = true := by simp; omega
        have hG : G = .bad 2 := by rw [HG.out, takeP, if_neg HKN.out]; simp [getText, getNum, h8, hsh]
        subst hG
        go_enter Try.func39, Try.ntmps39
        go_wp2_with (refine wpList_store_row rfl 61 (.tmp 4) _ rfl (w.heap.size + 1) (badCells 2) rfl rfl 61 _ (heap_alloc2_new _ _ _) (by rw [badCells_size]; exact infoGot) (by rw [badCells_size]; rfl) (badCells_one 2) ?_)
        refine bodyPost_ret (results_cell_row rfl _ _ (w.heap.size + 1) 61 (badCells 2) (0, 0) _ rfl (setRow_heap _ _ _ _ _ _ (heap_alloc2_new _ _ _)) Try.underlying61 rfl infoGot) rfl ?_
        exact ⟨_, rfl, take_bad hB⟩
      · have t2 : decide ((r.length : Int) + 1 < 1 + (k.toNat : Int)) = false := by simp; omega
        obtain ⟨K, hK⟩ : ∃ K, K = k.toNat := ⟨_, rfl⟩
        have hG := HG.out.trans (takeP_cons HKN.out h8 hsh)
        rw [← hK] at hG hsh t2 t1
        rw [← hK] at hc0
        have hcr : ∀ i, i < r.length → w.cell? ⟨b, o + (1 + i), none⟩ = some (.int .u8 ((r.getD i 0).toNat : Int)) := fun i hi => by
          have h9 := HC.out (1 + i) (by simp; omega)
          rw [h9]
          simp [List.getD, Nat.add_comm 1 i]
        have HCR := Lib.hid hcr
        have HG2 := Lib.hid hG
        have h8' : K ≤ 8 := by omega
        have t0 : ((r.length : Int) + 1 == 0) = false := by simp; omega
        have hbg : r.length ≤ 140737488355328 := by have := H.out.hbig; omega
        have HK := Lib.hid hK
        clear HC HG hcr hG hK h8 hk8
        by_cases hz : 0 < K ∧ r.getD 0 0 = 0
        · have t3 : 0 < K := by omega
          obtain ⟨x, hx⟩ : ∃ x, x = r.getD 0 0 := ⟨_, rfl⟩
          have hc1 : w.cell? ⟨b, o + 1, none⟩ = some (.int .u8 (x.toNat : Int)) := by
            have := HCR.out 0 (by omega)
            rw [Nat.add_zero, ← hx] at this
            exact this
          have t4 : ((x.toNat : Int) == 0) = true := by rw [hx, hz.2]; rfl
          have hG : G = .bad 3 := by rw [HG2.out, if_pos hz]
          subst hG
          clear hz hx
          go_enter Try.func39, Try.ntmps39
          go_wp2_with (refine wpList_store_row rfl 61 (.tmp 4) _ rfl (w.heap.size + 1) (badCells 3) rfl rfl 61 _ (heap_alloc2_new _ _ _) (by rw [badCells_size]; exact infoGot) (by rw [badCells_size]; rfl) (badCells_one 3) ?_)
          refine bodyPost_ret (results_cell_row rfl _ _ (w.heap.size + 1) 61 (badCells 3) (0, 0) _ rfl (setRow_heap _ _ _ _ _ _ (heap_alloc2_new _ _ _)) Try.underlying61 rfl infoGot) rfl ?_
          exact ⟨_, rfl, take_bad hB⟩
        · have hG := HG2.out
          rw [if_neg hz] at hG
          have HG3 := Lib.hid hG
          have HZ := Lib.hid hz
          clear hG HG2
          have hcase : (¬ 0 < K) ∨ (0 < K ∧ ∃ x : UInt8, w.cell? ⟨b, o + 1, none⟩ = some (.int .u8 (x.toNat : Int)) ∧ ((x.toNat : Int) == 0) = false) := by
            by_cases hK0 : K = 0
            · exact .inl (by omega)
            · refine .inr ⟨by omega, r.getD 0 0, HCR.out 0 (by omega), ?_⟩
              have : (r.getD 0 0).toNat ≠ 0 := fun e => hz ⟨by omega, UInt8.toNat_inj.1 e⟩
              simp; simp at this; omega
          clear hz
          rcases hcase with t3 | ⟨t3, x, hc1, t4⟩
          all_goals
            go_enter Try.func39, Try.ntmps39
            go_wp2_with fail
            refine wp_world (W' := (w.alloc (.cells (.int .i64 kk :: .int .u64 N :: F).toArray 58)).alloc (.cells (badCells 0) 61)) rfl ?_
            obtain ⟨W0, hW0⟩ : ∃ W0, W0 = (w.alloc (.cells (.int .i64 kk :: .int .u64 N :: F).toArray 58)).alloc (.cells (badCells 0) 61) := ⟨_, rfl⟩
            rw [← hW0]
            have hbl : Below w.heap.size w W0 := by rw [hW0]; exact ((Below.refl _ w).alloc (Nat.le_refl _) _).alloc (by simp) _
            have hgot : W0.heap[w.heap.size + 1]? = some (.cells (badCells 0) 61 (0, 0)) := by rw [hW0]; exact heap_alloc2_new _ _ _
            have p0 : W0.cell? ⟨w.heap.size, 0, none⟩ = some (.int .i64 kk) := by rw [hW0, cell_of_row _ _ _ _ _ _ (heap_alloc2_old _ _ _)]; rfl
            have p1 : W0.cell? ⟨w.heap.size, 1, none⟩ = some (.int .u64 N) := by rw [hW0, cell_of_row _ _ _ _ _ _ (heap_alloc2_old _ _ _)]; rfl
            have hcr : ∀ i, i < r.length → W0.cell? ⟨b, o + (1 + i), none⟩ = some (.int .u8 ((r.getD i 0).toNat : Int)) := fun i hi => (hbl.cell (p := ⟨b, o + (1 + i), none⟩) hb).trans (HCR.out i hi)
            have HB := Lib.hid hbl
            have HGOT := Lib.hid hgot
            have HC2 := Lib.hid hcr
            clear hW0 hbl hgot hcr HCR hc0
            go_loop [8, 9] (fun vv iv => ∃ j : Nat, j ≤ K ∧ iv = .int .i64 ((j : Int) + 1) ∧ vv = .int .u64 (be (r.take j) : Nat)) (fun _ iv => K + 1 - (intOf iv).toNat)
            case atStart => exact ⟨0, by omega, rfl, rfl⟩
            case round =>
              obtain ⟨j, hj, rfl, rfl⟩ := hrel
              by_cases hlt : j < K
              · have hc3 := HC2.out j (by omega)
                obtain ⟨y, hy⟩ : ∃ y, y = r.getD j 0 := ⟨_, rfl⟩
                rw [← hy] at hc3
                have hsn : r.take (j + 1) = r.take j ++ [y] := by rw [hy, take_snocB r j (by omega)]
                have hbe : be (r.take (j + 1)) = be (r.take j) * 256 + y.toNat := by rw [hsn, be_snoc]
                have hvl := be_lt (r.take j)
                have hvl2 : be (r.take j) < 2 ^ 56 := by
                  have h1 : (r.take j).length ≤ 7 := by simp; omega
                  have h2 : (256 : Nat) ^ (r.take j).length ≤ 256 ^ 7 := Nat.pow_le_pow_right (by omega) h1
                  have h3 : (256 : Nat) ^ 7 = 2 ^ 56 := by decide
                  omega
                obtain ⟨v, hv⟩ : ∃ v, v = be (r.take j) := ⟨_, rfl⟩
                rw [← hv] at hbe hvl2 ⊢
                have hyl := y.toNat_lt
                have HBE := Lib.hid hbe
                clear hvl hv hsn hbe hy
                rw [show o + (1 + j) = o + (j + 1) by omega] at hc3
                have t5 : decide ((j : Int) + 1 ≤ (K : Int)) = true := by simp; omega
                have hk0 : (0 : Int) ≤ (j : Int) + 1 := by omega
                have hk1 : (j : Int) + 1 < (r.length : Int) + 1 := by omega
                have hk2' : ((j : Int) + 1).toNat = j + 1 := by omega
                go_wp2_with fail
                go_round
                case rel => exact ⟨j + 1, by omega, by go_num, by rw [HBE.out]; go_num⟩
                case measure => simp [intOf]; omega
              · have hjK : j = K := by omega
                subst hjK
                have t5 : decide ((j : Int) + 1 ≤ (j : Int)) = false := by simp; omega
                obtain ⟨v, hv⟩ : ∃ v, v = be (r.take j) := ⟨_, rfl⟩
                rw [← hv]
                have HV := Lib.hid hv
                clear hv
                by_cases hN : N < v
                · have t6 : decide ((N : Int) < (v : Int)) = true := by simp; omega
                  have hG : G = .bad 5 := by rw [HG3.out, ← HV.out, if_pos hN]
                  subst hG
                  go_wp2_with (refine wpList_store_row rfl 61 (.tmp 4) _ rfl (w.heap.size + 1) (badCells 5) rfl rfl 61 _ HGOT.out (by rw [badCells_size]; exact infoGot) (by rw [badCells_size]; rfl) (badCells_one 5) ?_)
                  refine bodyPost_ret (results_cell_row rfl _ _ (w.heap.size + 1) 61 (badCells 5) (0, 0) _ rfl (setRow_heap _ _ _ _ _ _ HGOT.out) Try.underlying61 rfl infoGot) rfl ?_
                  exact ⟨_, rfl, gotIs_bad _ _ _, HB.out.trans (below_setRow _ _ (by omega))⟩
                · have t6 : decide ((N : Int) < (v : Int)) = false := by simp; omega
                  have hG : G = if kk = 0 then ⟨0, v, [], zeros32, 0, r.drop j⟩ else if (r.drop j).length < v then .bad 2 else ⟨1, 0, (r.drop j).take v, zeros32, 0, (r.drop j).drop v⟩ := by rw [HG3.out, ← HV.out, if_neg hN]
                  have HG4 := Lib.hid hG
                  clear hG HG3
                  obtain ⟨A, C, hrun, hbs⟩ : ∃ A C, (∀ w' : World, (Instr.slice 22 (.slice (some ⟨b, o, none⟩) (r.length + 1) c) (some (.int .i64 (1 + (j : Int)))) none none).run Try.prog w' = .ok (.slice A (r.length - j) C) w') ∧ BsAt W0 B A (r.length - j) C (r.drop j) := by
                    have e1 : r.length + 1 - (1 + j) = r.length - j := by omega
                    have e2 : (k :: r).drop (1 + j) = r.drop j := by rw [Nat.add_comm]; rfl
                    have h2 := (H.out.below HB.out hB).from_ (show 1 + j ≤ r.length + 1 by omega)
                    rw [e1, e2] at h2
                    refine ⟨_, _, fun w' => ?_, h2⟩
                    have h3 := run_from Try.underlying22 infoU8s (some ⟨b, o, none⟩) (r.length + 1) c .i64 (1 + j) (by omega) w'
                    rw [e1] at h3
                    exact h3
                  have HBS := Lib.hid hbs
                  clear hbs
                  by_cases h0 : kk = 0
                  · have t7 : (kk == 0) = true := by simpa using h0
                    have hG := HG4.out
                    rw [if_pos h0] at hG
                    subst hG
                    go_wp2_with (refine wpList_store_row rfl 61 (.tmp 4) _ rfl (w.heap.size + 1) (valCells 0 v (.slice none 0 0) (.slice A (r.length - j) C)) rfl rfl 61 _ HGOT.out (by rw [valCells_size]; exact infoGot) (by rw [valCells_size]; rfl) (valCells_one _ _ _ _ _ _ _ _) ?_)
                    refine bodyPost_ret (results_cell_row rfl _ _ (w.heap.size + 1) 61 (valCells 0 v (.slice none 0 0) (.slice A (r.length - j) C)) (0, 0) _ rfl (setRow_heap _ _ _ _ _ _ HGOT.out) Try.underlying61 rfl infoGot) rfl ?_
                    have hbl := below_setRow W0 (valCells 0 v (.slice none 0 0) (.slice A (r.length - j) C)) (show w.heap.size ≤ w.heap.size + 1 by omega)
                    refine ⟨_, rfl, ⟨none, 0, A, C, ?_, BsAt.zero _ _ _ _ (by simp [maxLen]) (fun _ => rfl), ?_⟩, HB.out.trans hbl⟩
                    · rw [show (r.drop j).length = r.length - j by simp]; rfl
                    · have := HBS.out.below hbl hB
                      rw [show (r.drop j).length = r.length - j by simp]; exact this
                  · have t7 : (kk == 0) = false := by simpa using h0
                    have hG := HG4.out
                    rw [if_neg h0] at hG
                    have hdl : (r.drop j).length = r.length - j := by simp
                    by_cases hd : r.length - j < v
                    · have t8 : decide (r.length - j < v) = true := by simp; omega
                      rw [if_pos (by omega)] at hG
                      subst hG
                      clear hdl
                      go_wp2_with (refine wpList_store_row rfl 61 (.tmp 4) _ rfl (w.heap.size + 1) (badCells 2) rfl rfl 61 _ HGOT.out (by rw [badCells_size]; exact infoGot) (by rw [badCells_size]; rfl) (badCells_one 2) ?_)
                      refine bodyPost_ret (results_cell_row rfl _ _ (w.heap.size + 1) 61 (badCells 2) (0, 0) _ rfl (setRow_heap _ _ _ _ _ _ HGOT.out) Try.underlying61 rfl infoGot) rfl ?_
                      exact ⟨_, rfl, gotIs_bad _ _ _, HB.out.trans (below_setRow _ _ (by omega))⟩
                    · have t8 : decide (r.length - j < v) = false := by simp; omega
                      rw [if_neg (by omega)] at hG
                      have HG5 := Lib.hid hG
                      clear hG hdl HG4
                      obtain ⟨A2, C2, hr2, hbs2⟩ : ∃ A2 C2, (∀ w' : World, (Instr.slice 22 (.slice A (r.length - j) C) (some (.int .u64 (v : Int))) none none).run Try.prog w' = .ok (.slice A2 (r.length - j - v) C2) w') ∧ BsAt W0 B A2 (r.length - j - v) C2 ((r.drop j).drop v) :=
                        ⟨_, _, fun w' => run_from Try.underlying22 infoU8s A (r.length - j) C .u64 v (by omega) w', HBS.out.from_ (by omega)⟩
                      have hvC : v ≤ C := by have := HBS.out.hle; omega
                      have hr1 := fun w' => run_upto (P := Try.prog) Try.underlying22 infoU8s A (r.length - j) C .u64 v hvC w'
                      have HBS2 := Lib.hid hbs2
                      clear hbs2
                      go_wp2_with fail
                      have HHR := Lib.hid hrun
                      clear hrun
                      go_still_tail 8, (by kernel_rfl)
                      change wpList _ _ _ _ _ W0.drew
                      have hgd : W0.drew.heap[w.heap.size + 1]? = some (.cells (badCells 0) 61 (0, 0)) := HGOT.out
                      have HGD := Lib.hid hgd
                      clear hgd
                      go_wp2_with (refine wpList_store_row rfl 61 (.tmp 4) _ rfl (w.heap.size + 1) (valCells 1 0 (.slice A v C) (.slice A2 (r.length - j - v) C2)) rfl rfl 61 _ HGD.out (by rw [valCells_size]; exact infoGot) (by rw [valCells_size]; rfl) (valCells_one _ _ _ _ _ _ _ _) ?_)
                      refine bodyPost_ret (results_cell_row rfl _ _ (w.heap.size + 1) 61 (valCells 1 0 (.slice A v C) (.slice A2 (r.length - j - v) C2)) (0, 0) _ rfl (setRow_heap _ _ _ _ _ _ HGD.out) Try.underlying61 rfl infoGot) rfl ?_
                      have hbl : Below w.heap.size W0 (W0.drew.setRow (w.heap.size + 1) (valCells 1 0 (.slice A v C) (.slice A2 (r.length - j - v) C2))) := ((Below.refl _ W0).drew).trans (below_setRow W0.drew _ (by omega))
                      have e1 : ((r.drop j).take v).length = v := by simp; omega
                      have e2 : ((r.drop j).drop v).length = r.length - j - v := by simp; omega
                      rw [HG5.out]
                      refine ⟨_, rfl, ⟨A, C, A2, C2, ?_, ?_, ?_⟩, HB.out.trans hbl⟩
                      · show _ = (gotCells 1 0 (.slice A ((r.drop j).take v).length C) zeros32 0 (.slice A2 ((r.drop j).drop v).length C2)).toArray
                        rw [e1, e2]; rfl
                      · show BsAt _ _ A ((r.drop j).take v).length C _
                        rw [e1]; exact (HBS.out.upto (by omega) hvC (Nat.le_refl _)).below hbl hB
                      · show BsAt _ _ A2 ((r.drop j).drop v).length C2 _
                        rw [e2]; exact HBS2.out.below hbl hB
end Go.Proofs.Ytogcnfhmcpkdcaa

namespace Go.Proofs.Ytogcnfhmcpkdcaa
open Go.RowKit
set_option linter.unusedVariables false

/-- the cells while the digest is filled in -/
def midCells (l : List UInt8) (j : Nat) (lv : Value) : Array Value := (gotCells 2 0 (.slice none 0 0) (l.take j ++ List.replicate (32 - j) 0) 0 lv).toArray

theorem midCells_size (l : List UInt8) (j : Nat) (lv : Value) (hj : j ≤ 32) (hl : 32 ≤ l.length) : (midCells l j lv).size = 37 := by
  simp [midCells, gotCells]; omega

theorem midCells_get (l : List UInt8) (j : Nat) (lv : Value) (hj : j < 32) (hl : 32 ≤ l.length) : (midCells l j lv)[3 + j]? = some (.int .u8 0) := by
  have h1 : (l.take j).length = j := by simp; omega
  simp only [midCells, gotCells, List.getElem?_toArray, List.map_append, List.append_assoc]
  rw [Nat.add_comm 3 j]
  simp only [List.getElem?_cons_succ]
  rw [List.getElem?_append_right (by simp; omega)]
  have h2 : j - (List.map bv (l.take j)).length = 0 := by simp; omega
  rw [h2, show 32 - j = (31 - j) + 1 by omega, List.replicate_succ]
  rfl

theorem midCells_set (l : List UInt8) (j : Nat) (lv : Value) (hj : j < 32) (hl : 32 ≤ l.length) : (midCells l j lv).setIfInBounds (3 + j) (bv (l.getD j 0)) = midCells l (j + 1) lv := by
  have h1 : (l.take j).length = j := by simp; omega
  simp only [midCells, gotCells, List.setIfInBounds_toArray]
  congr 1
  rw [Nat.add_comm 3 j]
  simp only [List.set_cons_succ, List.map_append, List.append_assoc]
  rw [List.set_append_right _ _ (by simp; omega)]
  have h2 : j - (List.map bv (l.take j)).length = 0 := by simp; omega
  rw [h2, show 32 - j = (31 - j) + 1 by omega, List.replicate_succ, take_snocB l j (by omega), show 32 - (j + 1) = 31 - j by omega]
  simp

theorem midCells_one (l : List UInt8) (j : Nat) (a : Option Addr) (n c : Nat) : (midCells l j (.slice a n c)).all (·.oneCell') = true := by
  refine all_oneCell_toArray (fun v hv => ?_)
  simp only [gotCells, List.mem_cons, List.mem_append, List.mem_map] at hv
  rcases hv with rfl | rfl | rfl | ⟨x, _, rfl⟩ | rfl | rfl | h
  · rfl
  · rfl
  · rfl
  · rfl
  · rfl
  · rfl
  · cases h

theorem heap_alloc3_new (w : World) (A B C : Obj) : (((w.alloc A).alloc B).alloc C).heap[w.heap.size + 1 + 1]? = some C := by
  have h := heap_alloc_new ((w.alloc A).alloc B) C
  simpa using h
theorem heap_alloc3_mid (w : World) (A B C : Obj) : (((w.alloc A).alloc B).alloc C).heap[w.heap.size + 1]? = some B := by
  rw [heap_alloc_old]
  · exact heap_alloc2_new w A B
  · simp

set_option maxRecDepth 100000 in
set_option maxHeartbeats 4000000 in
theorem refTake2 (l : List UInt8) (a : Option Addr) (n c : Nat) (F : List Value) (N : Nat) (hF : F.length = 33) (w : World) (B : Nat) (hB : B ≤ w.heap.size) (h : BsAt w B a n c l) :
    Calls Try.prog 39 #[.slice a n c, .agg (.int .i64 2 :: .int .u64 N :: F).toArray] w fun e w' => ∃ gs, e = .returned (.agg gs) ∧ GotIs w' B gs (takeP 2 N l) ∧ Below w.heap.size w w' := by
  have hl := h.hlen
  subst hl
  have H := Lib.hid h
  clear h
  by_cases hs : l.length < 32
  · have t1 : decide ((l.length : Int) < 32) = true := by simp; omega
    go_enter Try.func39, Try.ntmps39
    go_wp2_with (refine wpList_store_row rfl 61 (.tmp 4) _ rfl (w.heap.size + 1) (badCells 2) rfl rfl 61 _ (heap_alloc2_new _ _ _) (by rw [badCells_size]; exact infoGot) (by rw [badCells_size]; rfl) (badCells_one 2) ?_)
    refine bodyPost_ret (results_cell_row rfl _ _ (w.heap.size + 1) 61 (badCells 2) (0, 0) _ rfl (setRow_heap _ _ _ _ _ _ (heap_alloc2_new _ _ _)) Try.underlying61 rfl infoGot) rfl ?_
    exact ⟨_, rfl, by rw [takeP, if_pos rfl, getTake, if_pos hs]; exact take_bad hB⟩
  · have t1 : decide ((l.length : Int) < 32) = false := by simp; omega
    obtain ⟨b, o, rfl, hb, hc⟩ := H.out.hat (by omega)
    have hb := Nat.lt_of_lt_of_le hb hB
    have HC := Lib.hid hc
    clear hc
    obtain ⟨A, C, hrun, hbs⟩ : ∃ A C, (∀ w' : World, (Instr.slice 22 (.slice (some ⟨b, o, none⟩) l.length c) (some (.int .i64 32)) none none).run Try.prog w' = .ok (.slice A (l.length - 32) C) w') ∧ BsAt w B A (l.length - 32) C (l.drop 32) :=
      ⟨_, _, fun w' => run_from Try.underlying22 infoU8s (some ⟨b, o, none⟩) l.length c .i64 32 (by omega) w', H.out.from_ (by omega)⟩
    have HBS := Lib.hid hbs
    clear hbs
    go_enter Try.func39, Try.ntmps39
    go_wp2_with (refine wpList_store_row rfl 61 (.tmp 5) _ rfl (w.heap.size + 1 + 1) (midCells l 0 (.slice A (l.length - 32) C)) rfl rfl 61 _ (heap_alloc3_new _ _ _ _) (by rw [midCells_size _ _ _ (by omega) (by omega)]; exact infoGot) (midCells_size _ _ _ (by omega) (by omega)).symm (midCells_one _ _ _ _ _) ?_)
    refine wp_world (W' := (((w.alloc (.cells (.int .i64 2 :: .int .u64 N :: F).toArray 58)).alloc (.cells (badCells 0) 61)).alloc (.cells (badCells 0) 61)).setRow (w.heap.size + 1 + 1) (midCells l 0 (.slice A (l.length - 32) C))) rfl ?_
    obtain ⟨W1, hW1⟩ : ∃ W1, W1 = ((w.alloc (.cells (.int .i64 2 :: .int .u64 N :: F).toArray 58)).alloc (.cells (badCells 0) 61)).alloc (.cells (badCells 0) 61) := ⟨_, rfl⟩
    rw [← hW1]
    have hm1 : W1.heap[w.heap.size + 1]? = some (.cells (badCells 0) 61 (0, 0)) := by rw [hW1]; exact heap_alloc3_mid _ _ _ _
    have hm2 : W1.heap[w.heap.size + 1 + 1]? = some (.cells (badCells 0) 61 (0, 0)) := by rw [hW1]; exact heap_alloc3_new _ _ _ _
    have hbl : Below w.heap.size w W1 := by rw [hW1]; exact (((Below.refl _ w).alloc (Nat.le_refl _) _).alloc (by simp) _).alloc (by simp; omega) _
    obtain ⟨W0, hW0⟩ : ∃ W0, W0 = W1.setRow (w.heap.size + 1 + 1) (midCells l 0 (.slice A (l.length - 32) C)) := ⟨_, rfl⟩
    rw [← hW0]
    have h0 : W0.heap[w.heap.size + 1]? = some (.cells (badCells 0) 61 (0, 0)) := by rw [hW0, setRow_other _ _ _ _ (by omega)]; exact hm1
    have h1 : W0.heap[w.heap.size + 1 + 1]? = some (.cells (midCells l 0 (.slice A (l.length - 32) C)) 61 (0, 0)) := by rw [hW0]; exact setRow_heap _ _ _ _ _ _ hm2
    have hb0 : Below w.heap.size w W0 := by rw [hW0]; exact hbl.trans (below_setRow _ _ (by omega))
    have HM0 := Lib.hid h0
    have HM1 := Lib.hid h1
    have HB0 := Lib.hid hb0
    clear hW0 hW1 hm1 hm2 hbl h0 h1 hb0
    go_loopw [6] (fun iv wr => ∃ j : Nat, j ≤ 32 ∧ iv = .int .i64 j ∧ wr.heap[w.heap.size + 1]? = some (.cells (badCells 0) 61 (0, 0)) ∧ wr.heap[w.heap.size + 1 + 1]? = some (.cells (midCells l j (.slice A (l.length - 32) C)) 61 (0, 0)) ∧ Below w.heap.size w wr)
      (fun iv _ => 32 - (intOf iv).toNat)
    case atStart => exact ⟨0, by omega, rfl, HM0.out, HM1.out, HB0.out⟩
    case round =>
      obtain ⟨j, hj, rfl, q0, q1, hbl⟩ := hrel
      have HQ0 := Lib.hid q0
      have HQ1 := Lib.hid q1
      have HB := Lib.hid hbl
      by_cases hlt : j < 32
      · obtain ⟨x, hx⟩ : ∃ x, x = l.getD j 0 := ⟨_, rfl⟩
        have hcx : wr.cell? ⟨b, o + j, none⟩ = some (.int .u8 (x.toNat : Int)) := by rw [hx]; exact (hbl.cell (p := ⟨b, o + j, none⟩) hb).trans (HC.out j (by omega))
        have hcy : wr.cell? ⟨w.heap.size + 1 + 1, 3 + j, none⟩ = some (.int .u8 0) := by rw [cell_of_row _ _ _ _ _ _ q1]; exact midCells_get _ _ _ hlt (by omega)
        have hcf : wr.frozen? ⟨w.heap.size + 1 + 1, 3 + j, none⟩ = false := frozen_of_row _ _ _ _ _ q1
        have HX := Lib.hid hx
        have hk0 : (0 : Int) ≤ (j : Int) := by omega
        have hk1 : (j : Int) < (l.length : Int) := by omega
        have hk2 : (j : Int) < 32 := by omega
        clear q0 q1 hbl hx
        go_wp2_with fail
        go_roundw
        case rel =>
          refine ⟨j + 1, by omega, by go_num, ?_, ?_, HB.out.trans ⟨rfl, rfl, rfl, by simp, fun k hk => Below.heap_setCell _ _ _ k (by show k ≠ w.heap.size + 1 + 1; omega)⟩⟩
          · rw [heap_setCell_other _ _ _ _ (by show w.heap.size + 1 ≠ w.heap.size + 1 + 1; omega)]; exact HQ0.out
          · rw [heap_setCell_same _ _ _ _ _ _ HQ1.out, ← midCells_set l j _ hlt (by omega), ← HX.out]
        case measure => simp [intOf]; omega
      · have hj32 : j = 32 := by omega
        subst hj32
        clear q0 q1 hbl
        go_wp2_with (first
          | (refine wpList_load_row rfl 61 _ rfl (w.heap.size + 1 + 1) rfl 61 (midCells l 32 (.slice A (l.length - 32) C)) (0, 0) _ HQ1.out Try.underlying61 rfl (by rw [midCells_size _ _ _ (by omega) (by omega)]; exact infoGot) ?_)
          | (refine wpList_store_row rfl 61 (.tmp 4) _ rfl (w.heap.size + 1) (midCells l 32 (.slice A (l.length - 32) C)) rfl rfl 61 _ HQ0.out (by rw [midCells_size _ _ _ (by omega) (by omega)]; exact infoGot) (midCells_size _ _ _ (by omega) (by omega)).symm (midCells_one _ _ _ _ _) ?_))
        refine bodyPost_ret (results_cell_row rfl _ _ (w.heap.size + 1) 61 (midCells l 32 (.slice A (l.length - 32) C)) (0, 0) _ rfl (setRow_heap _ _ _ _ _ _ HQ0.out) Try.underlying61 rfl (by rw [midCells_size _ _ _ (by omega) (by omega)]; exact infoGot)) rfl ?_
        have hbl : Below w.heap.size wr (wr.setRow (w.heap.size + 1) (midCells l 32 (.slice A (l.length - 32) C))) := below_setRow _ _ (by omega)
        have e1 : (l.drop 32).length = l.length - 32 := by simp
        refine ⟨_, rfl, ?_, HB.out.trans hbl⟩
        rw [takeP, if_pos rfl, getTake, if_neg hs]
        refine ⟨none, 0, A, C, ?_, BsAt.zero _ _ _ _ (by simp [maxLen]) (fun _ => rfl), ?_⟩
        · show _ = (gotCells 2 0 (.slice none 0 0) (l.take 32) 0 (.slice A (l.drop 32).length C)).toArray
          rw [e1]; simp [midCells]
        · show BsAt _ _ A (l.drop 32).length C _
          rw [e1]; exact (HBS.out.below HB.out hB).below hbl hB

theorem refTake (kk : Int) (l : List UInt8) (a : Option Addr) (n c : Nat) (F : List Value) (N : Nat) (hF : F.length = 33) (w : World) (B : Nat) (hB : B ≤ w.heap.size) (h : BsAt w B a n c l) :
    Calls Try.prog 39 #[.slice a n c, .agg (.int .i64 kk :: .int .u64 N :: F).toArray] w fun e w' => ∃ gs, e = .returned (.agg gs) ∧ GotIs w' B gs (takeP kk N l) ∧ Below w.heap.size w w' := by
  by_cases h2 : kk = 2
  · subst h2; exact refTake2 l a n c F N hF w B hB h
  · exact refTakeN kk (by simpa using h2) l a n c F N hF w B hB h
end Go.Proofs.Ytogcnfhmcpkdcaa

namespace Go.Proofs.Ytogcnfhmcpkdcaa
open Go.RowKit
set_option linter.unusedVariables false

theorem takeP_d (kk : Int) (N : Nat) (l : List UInt8) : (takeP kk N l).d.length = 32 := by
  unfold takeP
  by_cases h2 : kk = 2
  · rw [if_pos h2]
    cases h : getTake 32 l with
    | err x => simp [PGot.bad, zeros32]
    | ok d r =>
      simp only [getTake] at h
      split at h
      · cases h
      · injection h with h1 _
        rw [← h1]; simp; omega
  · rw [if_neg h2]
    by_cases h0 : kk = 0
    · rw [if_pos h0]
      cases getNum N l <;> simp [PGot.bad, zeros32]
    · rw [if_neg h0]
      cases getText N l <;> simp [PGot.bad, zeros32]

theorem takeP_num_err {N : Nat} {l : List UInt8} {x : Int} (h : getNum N l = .err x) : takeP 0 N l = .bad x := by simp [takeP, h]
theorem takeP_num_ok {N v : Nat} {l r : List UInt8} (h : getNum N l = .ok v r) : takeP 0 N l = ⟨0, v, [], zeros32, 0, r⟩ := by simp [takeP, h]
theorem takeP_text_err {N : Nat} {l : List UInt8} {x : Int} (h : getText N l = .err x) : takeP 1 N l = .bad x := by simp [takeP, h]
theorem takeP_text_ok {N : Nat} {l t r : List UInt8} (h : getText N l = .ok t r) : takeP 1 N l = ⟨1, 0, t, zeros32, 0, r⟩ := by simp [takeP, h]
theorem takeP_id_err {N : Nat} {l : List UInt8} {x : Int} (h : getTake 32 l = .err x) : takeP 2 N l = .bad x := by simp [takeP, h]
theorem takeP_id_ok {N : Nat} {l d r : List UInt8} (h : getTake 32 l = .ok d r) : takeP 2 N l = ⟨2, 0, [], d, 0, r⟩ := by simp [takeP, h]

theorem gotCells_len (k : Int) (n : Nat) (sv : Value) (d : List UInt8) (e : Int) (lv : Value) (hd : d.length = 32) : (gotCells k n sv d e lv).length = 37 := by simp [gotCells, hd]
theorem gotCells_k (k : Int) (n : Nat) (sv : Value) (d : List UInt8) (e : Int) (lv : Value) : (gotCells k n sv d e lv)[0]? = some (.int .i64 k) := rfl
theorem gotCells_n (k : Int) (n : Nat) (sv : Value) (d : List UInt8) (e : Int) (lv : Value) : (gotCells k n sv d e lv)[1]? = some (.int .u64 n) := rfl
theorem gotCells_s (k : Int) (n : Nat) (sv : Value) (d : List UInt8) (e : Int) (lv : Value) : (gotCells k n sv d e lv)[2]? = some sv := rfl
theorem gotCells_e (k : Int) (n : Nat) (sv : Value) (d : List UInt8) (e : Int) (lv : Value) (hd : d.length = 32) : (gotCells k n sv d e lv)[35]? = some (.int .i64 e) := by
  simp only [gotCells, List.getElem?_cons_succ]
  rw [List.getElem?_append_right (by simp [hd])]
  simp [hd]
theorem gotCells_l (k : Int) (n : Nat) (sv : Value) (d : List UInt8) (e : Int) (lv : Value) (hd : d.length = 32) : (gotCells k n sv d e lv)[36]? = some lv := by
  simp only [gotCells, List.getElem?_cons_succ]
  rw [List.getElem?_append_right (by simp [hd])]
  simp [hd]
theorem gotCells_one (k : Int) (n : Nat) (a : Option Addr) (m c : Nat) (d : List UInt8) (e : Int) (a' : Option Addr) (m' c' : Nat) : (gotCells k n (.slice a m c) d e (.slice a' m' c')).toArray.all (·.oneCell') = true := by
  refine all_oneCell_toArray (fun v hv => ?_)
  simp only [gotCells, List.mem_cons, List.mem_append, List.mem_map] at hv
  rcases hv with rfl | rfl | rfl | ⟨x, _, rfl⟩ | rfl | rfl | h
  · rfl
  · rfl
  · rfl
  · rfl
  · rfl
  · rfl
  · cases h

theorem GotIs.parts {w : World} {B : Nat} {gs : Array Value} {g : PGot} (h : GotIs w B gs g) (hd : g.d.length = 32) : gs.size = 37 ∧ gs.all (·.oneCell') = true := by
  obtain ⟨a, c, a', c', rfl, _, _⟩ := h
  exact ⟨by rw [List.size_toArray, gotCells_len _ _ _ _ _ _ hd], gotCells_one _ _ _ _ _ _ _ _ _ _⟩

/-- a Got that lies in block g -/
structure GotAt (T : TypeId) (w : World) (B g : Nat) (k : Int) (n : Nat) (t d : List UInt8) (e : Int) (left : List UInt8) (a : Option Addr) (c : Nat) (a' : Option Addr) (c' : Nat) : Prop where
  row : w.heap[g]? = some (.cells (gotCells k n (.slice a t.length c) d e (.slice a' left.length c')).toArray T (0, 0))
  dl : d.length = 32
  tx : BsAt w B a t.length c t
  lf : BsAt w B a' left.length c' left

theorem GotAt.ck {T : TypeId} {w : World} {B g : Nat} {k : Int} {n : Nat} {t d : List UInt8} {e : Int} {left : List UInt8} {a : Option Addr} {c : Nat} {a' : Option Addr} {c' : Nat} (h : GotAt T w B g k n t d e left a c a' c') :
    w.cell? ⟨g, 0, none⟩ = some (.int .i64 k) ∧ w.cell? ⟨g, 1, none⟩ = some (.int .u64 n) ∧ w.cell? ⟨g, 2, none⟩ = some (.slice a t.length c) ∧ w.cell? ⟨g, 35, none⟩ = some (.int .i64 e) ∧ w.cell? ⟨g, 36, none⟩ = some (.slice a' left.length c') := by
  refine ⟨?_, ?_, ?_, ?_, ?_⟩ <;> rw [cell_of_row _ _ _ _ _ _ h.row, List.getElem?_toArray]
  · rfl
  · rfl
  · rfl
  · exact gotCells_e _ _ _ _ _ _ h.dl
  · exact gotCells_l _ _ _ _ _ _ h.dl

theorem GotIs.at_ {T : TypeId} {w : World} {B g : Nat} {gs : Array Value} {G : PGot} (h : GotIs w B gs G) (hd : G.d.length = 32) (hg : w.heap[g]? = some (.cells gs T (0, 0))) : ∃ a c a' c', GotAt T w B g G.k G.n G.t G.d G.e G.left a c a' c' := by
  obtain ⟨a, c, a', c', rfl, h1, h2⟩ := h
  exact ⟨a, c, a', c', hg, hd, h1, h2⟩

/-- what Take hands back is laid into a new block -/
theorem GotIs.lay {T : TypeId} {w1 W2 : World} {B : Nat} {gs : Array Value} {k : Int} {n : Nat} {t d : List UInt8} {e : Int} {left : List UInt8} (h : GotIs w1 B gs ⟨k, n, t, d, e, left⟩) (hd : d.length = 32) (hB : B ≤ w1.heap.size)
    (hrow : W2.heap[w1.heap.size]? = some (.cells gs T (0, 0))) (hb : Below w1.heap.size w1 W2) : ∃ a c a' c', GotAt T W2 B w1.heap.size k n t d e left a c a' c' ∧
      W2.cell? ⟨w1.heap.size, 0, none⟩ = some (.int .i64 k) ∧ W2.cell? ⟨w1.heap.size, 1, none⟩ = some (.int .u64 n) ∧ W2.cell? ⟨w1.heap.size, 2, none⟩ = some (.slice a t.length c) ∧ W2.cell? ⟨w1.heap.size, 35, none⟩ = some (.int .i64 e) ∧ W2.cell? ⟨w1.heap.size, 36, none⟩ = some (.slice a' left.length c') := by
  obtain ⟨a, c, a', c', rfl, h1, h2⟩ := h
  have hg : GotAt T W2 B w1.heap.size k n t d e left a c a' c' := ⟨hrow, hd, h1.below hb hB, h2.below hb hB⟩
  exact ⟨a, c, a', c', hg, hg.ck⟩

theorem GotAt.below {T : TypeId} {w w' : World} {B B' g : Nat} {k : Int} {n : Nat} {t d : List UInt8} {e : Int} {left : List UInt8} {a : Option Addr} {c : Nat} {a' : Option Addr} {c' : Nat} (h : GotAt T w B g k n t d e left a c a' c') (hb : Below B' w w') (hB : B ≤ B') (hg : g < B') : GotAt T w' B g k n t d e left a c a' c' :=
  ⟨(hb.block g hg).trans h.row, h.dl, h.tx.below hb hB, h.lf.below hb hB⟩
end Go.Proofs.Ytogcnfhmcpkdcaa

namespace Go.Proofs.Ytogcnfhmcpkdcaa
open Go.RowKit
set_option linter.unusedVariables false
set_option linter.unusedSimpArgs false

/-- the rest of the cells of a field that is asked for -/
def askF : List Value := .slice none 0 0 :: zeros32.map bv
theorem askF_len : askF.length = 33 := by rfl
def askC (k : Int) (n : Nat) : Array Value := (.int .i64 k :: .int .u64 n :: askF).toArray
theorem askC_size (k : Int) (n : Nat) : (askC k n).size = 35 := by rfl
theorem askC_one (k : Int) (n : Nat) : (askC k n).all (·.oneCell') = true := by simp [askC, askF, zeros32, Value.oneCell']
theorem built_ask (n : Nat) : Try.prog.built 58 [(1, .int .u64 (n : Int))] = some (askC 0 n) := by kernel_rfl

end Go.Proofs.Ytogcnfhmcpkdcaa
