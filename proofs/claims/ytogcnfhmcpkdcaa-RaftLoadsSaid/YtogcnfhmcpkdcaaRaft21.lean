/-
  The law RaftLoads.
-/
import Derived.Test.YtogcnfhmcpkdcaaRaftM5
import Derived.Test.YtogcnfhmcpkdcaaLaw18a
import Derived.Test.YtogcnfhmcpkdcaaOpenBss
namespace Go.Proofs.Ytogcnfhmcpkdcaa
open Go.RowKit
set_option linter.unusedVariables false
set_option linter.unusedSimpArgs false

theorem raftLoad_no (hd nt : Value) (w : World) :
    Calls Try.prog 96 #[.int .i64 3, .int .i64 3, hd, nt] w fun e w' => e = .returned (.tuple #[.pointer none, .bool false]) ∧ w = w' := by
  go_enter Try.func96, Try.ntmps96
  go_wp2_with fail
  refine (raftNew_no 3 3 (by decide) _).mono ?_
  rintro e w1 ⟨rfl, rfl⟩
  go_wp2
  go_ret2
  exact ⟨rfl, rfl⟩

theorem slAt_none (w : World) (B : Nat) : SlAt w B 1 none 0 0 [] := ⟨rfl, Nat.le_refl _, by simp [maxLen], fun _ => rfl, fun h => by simp at h⟩
theorem PRaft.Fit.head9 {R : PRaft} (h : R.Fit 1300) (p : Nat) (M : RMem) (w : World) (hr : RfAt w p R M) :
    Calls Try.prog 97 #[.pointer (some ⟨p, 0, none⟩)] w fun e w' => ∃ a c, e = .returned (.slice a R.head.length c) ∧ BsAt w' w'.heap.size a R.head.length c R.head ∧ Below w.heap.size w w' :=
  (raftHead p R M h.b0 h.b1 h.f0 h.f1 h.g (by have := h.put; omega) (by have := h.s; omega) w hr).mono fun e w' ⟨a, c, h1, h2, h3, _⟩ => ⟨a, c, h1, h2.1, h3⟩

/-- the law's first loop, at a round's head -/
structure LoL (w : World) (ns : List MNote) (j : Nat) (wr : World) : Prop where
  bel : Below w.heap.size w wr
  sh : ∀ m ∈ ns.take j, m.b.length ≤ 100

set_option maxRecDepth 100000 in
set_option maxHeartbeats 2000000 in
theorem raftLoads_calls (hd : List UInt8) (a : Option Addr) (c : Nat) (ns : List MNote) (na : Option Addr) (nc : Nat) (w : World)
    (hh : hd.length ≤ 140737488355328 → BsAt w w.heap.size a hd.length c hd) (hs : SlAt w w.heap.size 1 na ns.length nc (ns.map MNote.cell)) (hb : ∀ m ∈ ns, NoteRd w m) :
    Calls Try.prog 24 #[.slice a hd.length c, .slice na ns.length nc] w fun e w' => e = .returned (.bool true) ∧ Below w.heap.size w w' := by
  have HH := Lib.hid hh
  have HS := Lib.hid hs
  have HB := Lib.hid hb
  clear hh hs hb
  by_cases hg1 : 300 < hd.length
  · have t1 : decide ((300 : Int) < (hd.length : Int)) = true := decide_eq_true (by omega)
    go_enter Try.func24, Try.ntmps24
    go_wp2_with fail
    refine (l18awake _).mono ?_
    rintro e w1 ⟨rfl, hb1⟩
    have HB1 := Lib.hid hb1
    clear hb1
    go_wp2
    go_ret
    exact ⟨rfl, HB1.out⟩
  have t1 : decide ((300 : Int) < (hd.length : Int)) = false := decide_eq_false (by omega)
  by_cases hg2 : 5 < ns.length
  · have t2 : decide ((5 : Int) < (ns.length : Int)) = true := decide_eq_true (by omega)
    go_enter Try.func24, Try.ntmps24
    go_wp2_with fail
    refine (l18awake _).mono ?_
    rintro e w1 ⟨rfl, hb1⟩
    have HB1 := Lib.hid hb1
    clear hb1
    go_wp2
    go_ret
    exact ⟨rfl, HB1.out⟩
  have t2 : decide ((5 : Int) < (ns.length : Int)) = false := decide_eq_false (by omega)
  have HHD := Lib.hid (show hd.length ≤ 300 by omega)
  have HNS := Lib.hid (show ns.length ≤ 5 by omega)
  have HL0 := Lib.hid (show LoL w ns 0 w from ⟨Below.refl _ _, by simp⟩)
  go_enter Try.func24, Try.ntmps24
  go_wp2_with fail
  clear hg1 hg2 t1 t2
  obtain ⟨wo, rfl⟩ : ∃ wo : World, wo = w := ⟨_, rfl⟩
  go_loopw [5] (fun iv wr => ∃ (j : Nat), iv = .int .i64 j ∧ j ≤ ns.length ∧ LoL wo ns j wr) (fun iv _ => ns.length - (intOf iv).toNat)
  case atStart => exact ⟨0, rfl, by omega, HL0.out⟩
  case round =>
    obtain ⟨j, rfl, hj, hl9⟩ := hrel
    have HL := Lib.hid hl9
    have hszr := hl9.bel.size
    clear hl9
    by_cases hlt : j < ns.length
    · have tj : decide ((j : Int) < (ns.length : Int)) = true := by simpa using hlt
      have hk0 : (0 : Int) ≤ (j : Int) := by omega
      have hk1 : (j : Int) < (ns.length : Int) := by omega
      have hj5 : j < 5 := by have := HNS.out; omega
      obtain ⟨m, hm9⟩ : ∃ m, ns[j]? = some m := ⟨_, List.getElem?_eq_getElem hlt⟩
      obtain ⟨b9, o, rfl, hb9, hc⟩ := HS.out.hat (by simp; omega)
      have e1 : (ns.map MNote.cell)[j]? = some (.slice m.a m.b.length m.c) := by simp [hm9, MNote.cell]
      have k1 : wr.cell? ⟨b9, o + j, none⟩ = some (.slice m.a m.b.length m.c) := (HL.out.bel.cell (p := ⟨b9, o + j, none⟩) hb9).trans ((hc _ (by simpa using hlt)).trans e1)
      have HM9 := Lib.hid hm9
      clear hc e1 hm9
      by_cases hlen : 100 < m.b.length
      · have t3 : decide ((100 : Int) < (m.b.length : Int)) = true := decide_eq_true (by omega)
        go_wp2_with fail
        refine (l18awake _).mono ?_
        rintro e w1 ⟨rfl, hb1⟩
        have HB1 := Lib.hid (HL.out.bel.trans (hb1.mono hszr))
        clear hb1
        go_wp2
        go_ret
        exact ⟨rfl, HB1.out⟩
      · have t3 : decide ((100 : Int) < (m.b.length : Int)) = false := decide_eq_false (by omega)
        have HNX := Lib.hid (show LoL wo ns (j + 1) wr from ⟨HL.out.bel, fun x hx => by
          rw [List.take_add_one, HM9.out] at hx
          simp only [Option.toList_some, List.mem_append, List.mem_singleton] at hx
          rcases hx with hx | rfl
          · exact HL.out.sh x hx
          · omega⟩)
        go_wp2
        go_roundw
        case rel => exact ⟨j + 1, by go_num, by omega, HNX.out⟩
        case measure => simp [intOf]; omega
    · have tj : decide ((j : Int) < (ns.length : Int)) = false := by simp; omega
      obtain rfl : j = ns.length := by omega
      have HSH := Lib.hid (show ∀ m ∈ ns, m.b.length ≤ 100 from fun m hm => HL.out.sh m (by rw [List.take_length]; exact hm))
      have HBS := Lib.hid (show BsAt wr wr.heap.size a hd.length c hd from ((HH.out (by have := HHD.out; omega)).below HL.out.bel (Nat.le_refl _)).mono hszr)
      have HSS := Lib.hid (show SlAt wr wr.heap.size 1 na ns.length nc (ns.map MNote.cell) from (HS.out.below HL.out.bel (Nat.le_refl _)).mono hszr)
      have HBM := Lib.hid (show ∀ m ∈ ns, BsAt wr wr.heap.size m.a m.b.length m.c m.b from fun m hm => ((HB.out m hm (by have := HSH.out m hm; omega)).below HL.out.bel (Nat.le_refl _)).mono hszr)
      have HW := Lib.hid HL.out.bel
      clear hlt hj
      go_wp2_with fail
      refine (raftLoad 0 3 (by decide) (by decide) (by decide) (by decide) hd a c ns na nc (by have := HNS.out; omega) _ HBS.out HSS.out HBM.out).mono ?_
      rintro e w1 ⟨hb1, hm1⟩
      obtain ⟨O, hO⟩ : ∃ O, loadP 0 3 hd (ns.map MNote.b) = O := ⟨_, rfl⟩
      rw [hO] at hm1
      have HO := Lib.hid hO
      have HW1 := Lib.hid (HW.out.trans (hb1.mono hszr))
      have HB1 := Lib.hid hb1
      clear hO hb1
      have hz1 := HW1.out.size
      cases O with
      | none =>
        obtain rfl : e = .returned (.tuple #[.pointer none, .bool false]) := hm1
        go_wp2_with fail
        refine (l18awake _).mono ?_
        rintro e w2 ⟨rfl, hb2⟩
        have HB2 := Lib.hid (HW1.out.trans (hb2.mono hz1))
        clear hb2
        go_wp2
        go_ret
        exact ⟨rfl, HB2.out⟩
      | some R =>
        obtain ⟨p, M, rfl, hr1⟩ := hm1
        have HR1 := Lib.hid hr1
        have HF := Lib.hid (loadP_fit HO.out HHD.out (by simpa using HNS.out) (fun l hl => by
          simp only [List.mem_map] at hl
          obtain ⟨m, hm, rfl⟩ := hl
          exact HSH.out m hm))
        clear hr1
        go_wp2_with fail
        refine (HF.out.head9 p M _ HR1.out).mono ?_
        rintro e w2 ⟨a2, c2, rfl, hbs2, hb2⟩
        have HBS2 := Lib.hid hbs2
        have HR2 := Lib.hid (HR1.out.below hb2)
        have HW2 := Lib.hid (HW1.out.trans (hb2.mono hz1))
        have HB2 := Lib.hid (HB1.out.trans (hb2.mono HB1.out.size))
        clear hbs2 hb2
        have hz2 := HW2.out.size
        go_wp2_with fail
        refine (raftLoad 0 3 (by decide) (by decide) (by decide) (by decide) R.head a2 c2 [] none 0 (by simp) _ HBS2.out (slAt_none _ _) (by simp)).mono ?_
        rintro e w3 ⟨hb3, hm3⟩
        obtain ⟨X, hX, hxf, hxh⟩ := loadP_again HF.out
        simp only [List.map_nil] at hm3
        rw [hX] at hm3
        obtain ⟨p3, M3, rfl, hr3⟩ := hm3
        have HX3 := Lib.hid hr3
        have HXF := Lib.hid hxf
        have HXH := Lib.hid hxh
        have HR3 := Lib.hid (HR2.out.below hb3)
        have HW3 := Lib.hid (HW2.out.trans (hb3.mono hz2))
        have HB3 := Lib.hid (HB2.out.trans (hb3.mono HB2.out.size))
        clear hb3 hX hxf hxh hr3
        have hz3 := HW3.out.size
        go_wp2_with fail
        refine (raftLoad_no _ _ _).mono ?_
        rintro e w4 ⟨rfl, rfl⟩
        go_wp2_with fail
        refine (HXF.out.head9 p3 M3 _ HX3.out).mono ?_
        rintro e w5 ⟨a5, c5, rfl, hbs5, hb5⟩
        have HBS5 := Lib.hid hbs5
        have HR5 := Lib.hid (HR3.out.below hb5)
        have HW5 := Lib.hid (HW3.out.trans (hb5.mono hz3))
        have HB5 := Lib.hid (HB3.out.trans (hb5.mono HB3.out.size))
        clear hbs5 hb5
        have hz5 := HW5.out.size
        go_wp2_with fail
        refine (HF.out.head9 p M _ HR5.out).mono ?_
        rintro e w6 ⟨a6, c6, rfl, hbs6, hb6⟩
        have HBS6 := Lib.hid hbs6
        have HBS56 := Lib.hid ((HBS5.out.below hb6 (Nat.le_refl _)).mono hb6.size)
        have HR6 := Lib.hid (HR5.out.below hb6)
        have HW6 := Lib.hid (HW5.out.trans (hb6.mono hz5))
        have HB6 := Lib.hid (HB5.out.trans (hb6.mono HB5.out.size))
        clear hbs6 hb6
        have hz6 := HW6.out.size
        go_wp2_with fail
        refine (r1Bytes X.head R.head a5 a6 _ c5 _ c6 _ HBS56.out HBS6.out).mono ?_
        rintro e w7 ⟨rfl, hb7⟩
        rw [show decide (X.head = R.head) = true from decide_eq_true HXH.out]
        have HR7 := Lib.hid (HR6.out.below hb7)
        have HW7 := Lib.hid (HW6.out.trans (hb7.mono hz6))
        have HB7 := Lib.hid (HB6.out.trans (hb7.mono HB6.out.size))
        clear hb7
        have hz7 := HW7.out.size
        by_cases h0 : hd.length = 0
        · have t5 : ((hd.length : Int) == 0) = true := by rw [h0]; rfl
          go_wp2_with fail
          refine (l18awake _).mono ?_
          rintro e w8 ⟨rfl, hb8⟩
          have HW8 := Lib.hid (HW7.out.trans (hb8.mono hz7))
          clear hb8
          go_wp2
          go_ret
          exact ⟨rfl, HW8.out⟩
        have t5 : ((hd.length : Int) == 0) = false := by rw [beq_eq_false_iff_ne]; omega
        by_cases h9 : 0 < ns.length
        · have t6 : decide ((0 : Int) < (ns.length : Int)) = true := decide_eq_true (by omega)
          have t6n : decide (0 < ns.length) = true := decide_eq_true h9
          clear h0 h9
          go_wp2_with fail
          refine (l18awake _).mono ?_
          rintro e w8 ⟨rfl, hb8⟩
          have HW8 := Lib.hid (HW7.out.trans (hb8.mono hz7))
          clear hb8
          go_wp2
          go_ret
          exact ⟨rfl, HW8.out⟩
        have t6 : decide ((0 : Int) < (ns.length : Int)) = false := decide_eq_false (by omega)
        have t6n : decide (0 < ns.length) = false := decide_eq_false h9
        have HSM := Lib.hid (show hd = R.head by
          have h8 := HO.out
          rw [List.eq_nil_of_length_eq_zero (show ns.length = 0 by omega)] at h8
          exact loadP_same h8 (fun e => h0 (by rw [e]; rfl)))
        clear h0 h9
        go_wp2_with fail
        refine (HF.out.head9 p M _ HR7.out).mono ?_
        rintro e w8 ⟨a8, c8, rfl, hbs8, hb8⟩
        have HBS8 := Lib.hid hbs8
        have HBH8 := Lib.hid (show BsAt w8 w8.heap.size a hd.length c hd from (HBS.out.below (HB7.out.trans (hb8.mono HB7.out.size)) (Nat.le_refl _)).mono (HB7.out.trans (hb8.mono HB7.out.size)).size)
        have HW8 := Lib.hid (HW7.out.trans (hb8.mono hz7))
        clear hbs8 hb8
        have hz8 := HW8.out.size
        go_wp2_with fail
        refine (r1Bytes hd R.head a a8 _ c _ c8 _ HBH8.out HBS8.out).mono ?_
        rintro e w9 ⟨rfl, hb9⟩
        rw [show decide (hd = R.head) = true from decide_eq_true HSM.out]
        have HW9 := Lib.hid (HW8.out.trans (hb9.mono hz8))
        clear hb9
        have hz9 := HW9.out.size
        go_wp2_with fail
        refine (l18awake _).mono ?_
        rintro e w10 ⟨rfl, hb10⟩
        have HWA := Lib.hid (HW9.out.trans (hb10.mono hz9))
        clear hb10
        go_wp2
        go_ret
        exact ⟨rfl, HWA.out⟩
end Go.Proofs.Ytogcnfhmcpkdcaa
