/-
  The statement FieldFails, its walk (the example's contract handed in).
-/
import Derived.Test.YtogcnfhmcpkdcaaLaw4b
import Derived.Test.YtogcnfhmcpkdcaaField4
namespace Go.Proofs.Ytogcnfhmcpkdcaa
open Go.RowKit
set_option linter.unusedVariables false

/-- what the example (awake) answers -/
def Awake4 : Prop := ∀ w : World, Calls Try.prog 25 #[] w fun e w' => e = .returned (.bool true) ∧ Below w.heap.size w w'

/-- the numbers that the law lays down -/
def laid (l : List UInt8) : List UInt8 := l.map fun b => UInt8.ofNat (1 + b.toNat % 255)

theorem laid_nz (l : List UInt8) : ∀ c ∈ laid l, c ≠ 0 := by
  intro c hc
  obtain ⟨b, _, rfl⟩ := List.mem_map.1 hc
  intro e
  have := congrArg UInt8.toNat e
  simp at this
  omega

theorem pairs_snoc (l : List UInt8) (c : UInt8) : pairs (l ++ [c]) = pairs l ++ [1, c] := by
  induction l with
  | nil => rfl
  | cons x l ih => simp [pairs, ih]
theorem pairs_length (l : List UInt8) : (pairs l).length = 2 * l.length := by
  induction l with
  | nil => rfl
  | cons x l ih => simp [pairs, ih]; omega

set_option maxRecDepth 100000 in
set_option maxHeartbeats 2000000 in
theorem fieldFails_calls (haw : Awake4) (l : List UInt8) (a : Option Addr) (n c A X : Nat) (hA : A < 256) (hX : X < 256) (w : World) (hn : n = l.length) (h : n ≤ 60 → BsAt w w.heap.size a n c l) :
    Calls Try.prog 3 #[.slice a n c, .int .u8 A, .int .u8 X] w fun e w' => e = .returned (.bool true) ∧ Below w.heap.size w w' := by
  have HAW := Lib.hid haw
  clear haw
  subst hn
  by_cases h60 : l.length ≤ 60
  · have t1 : decide ((60 : Int) < (l.length : Int)) = false := by simp; omega
    have hb := h h60
    have H := Lib.hid hb
    obtain ⟨i0, hi, hz0, hz1, hz2⟩ := info_parts infoU8
    obtain ⟨k, hk⟩ : ∃ k : Nat, k = A % (l.length + 1) := ⟨_, rfl⟩
    have hkn : k ≤ l.length := by rw [hk]; have := Nat.mod_lt A (show 0 < l.length + 1 by omega); omega
    have hkm : (A : Int) % ((l.length : Int) + 1) = (k : Int) := by rw [hk]; rfl
    clear h hb hk
    go_enter Try.func3, Try.ntmps3
    go_wp2_with fail
    simp only [hkm]
    go_loopw [8, 9] (fun all iv wr => ∃ i : Nat, i ≤ k ∧ iv = .int .i64 i ∧ wr.ownsRow w.heap.size 5 1 all (2 * i) ((pairs (laid (l.take i))).map bv) ∧ Below w.heap.size w wr)
      (fun _ iv _ => k - (intOf iv).toNat)
    case atStart => exact ⟨0, by omega, rfl, ⟨rfl, .inl ⟨rfl, rfl⟩⟩, Below.refl _ _⟩
    case round =>
      obtain ⟨i, hi', rfl, hown, hbel⟩ := hrel
      by_cases hlt : i < k
      · obtain ⟨b, o, rfl, hbb, hcc⟩ := H.out.hat (by omega)
        obtain ⟨x, hx⟩ : ∃ x, x = l.getD i 0 := ⟨_, rfl⟩
        have hcx : wr.cell? ⟨b, o + i, none⟩ = some (.int .u8 (x.toNat : Int)) := by rw [hx]; exact (hbel.cell (p := ⟨b, o + i, none⟩) hbb).trans (hcc i (by omega))
        have hxl := x.toNat_lt
        have hk0 : (0 : Int) ≤ (i : Int) := by omega
        have hk1 : (i : Int) < (l.length : Int) := by omega
        have htk : l.take (i + 1) = l.take i ++ [x] := by rw [hx, take_snocB l i (by omega)]
        have HTK := Lib.hid htk
        have HB := Lib.hid hbel
        have hsz := hbel.size
        clear hcc hx htk hbel
        go_wp2_with (at_builtin; refine wpList_append_own _ rfl _ _ 22 rfl w.heap.size 5 i0 (.int .u8 0) 1 1 Try.underlying22 hi hz0 hz1 hz2 rfl (by decide) _ _ _ rfl (hown.alloc _) ⟨wr.heap.size, 0, none⟩ 2 2 [.int .u8 1, .int .u8 (1 + (x.toNat : Int) % 255)] rfl rfl ?c1 ?c2 ?c3 ?c4 ?c5 ?_)
        case c1 => intro j u hu; match j, hu with | 0, hu => simp at hu; subst hu; simp [Addr.add, go_sem] | 1, hu => simp at hu; subst hu; simp [Addr.add, go_sem]
        case c2 => intro u hu; simp at hu; rcases hu with rfl | rfl <;> rfl
        case c3 => unfold maxLen; omega
        case c4 => omega
        case c5 => simp; omega
        intro v' w5 hown' hgrow _
        go_wp2
        go_roundw
        case rel =>
          refine ⟨i + 1, by omega, by go_num, ?_, (HB.out.alloc (by omega) _).grown hgrow (by simp; omega) (fun g hg => (own_lt hown hg).1)⟩
          have e2 : (pairs (laid (l.take (i + 1)))).map bv = (pairs (laid (l.take i))).map bv ++ [.int .u8 1, .int .u8 (1 + (x.toNat : Int) % 255)] := by
            rw [HTK.out]
            simp only [laid, List.map_append, List.map_cons, List.map_nil]
            rw [pairs_snoc]
            simp [bv]
            omega
          rw [e2, show 2 * (i + 1) = 2 * i + 2 by omega]
          exact hown'
        case measure => simp [intOf]; omega
      · have hik : i = k := by omega
        subst hik
        obtain ⟨a2, c2, rfl, hbs⟩ := bsAt_of_owns hown (by omega)
        have HB := Lib.hid hbel
        have hsz := hbel.size
        clear hbel hown
        go_wp2_with fail
        obtain ⟨W0, hW0⟩ : ∃ W0, W0 = wr.alloc (.cells #[.int .i64 i, .int .i64 0, .int .i64 (1 + (X : Int) % 20)] 27) := ⟨_, rfl⟩
        rw [← hW0]
        have hb0 : Below wr.heap.size wr W0 := by rw [hW0]; exact (Below.refl _ wr).alloc (Nat.le_refl _) _
        have hs0 : W0.heap.size = wr.heap.size + 1 := by rw [hW0]; simp
        have p0 : W0.cell? ⟨wr.heap.size, 0, none⟩ = some (.int .i64 i) := by rw [hW0]; simp [go_sem]
        have p1 : W0.cell? ⟨wr.heap.size, 1, none⟩ = some (.int .i64 0) := by rw [hW0]; simp [go_sem]
        have p2 : W0.cell? ⟨wr.heap.size, 2, none⟩ = some (.int .i64 (1 + (X : Int) % 20)) := by rw [hW0]; simp [go_sem]
        have pz : W0.frozen? ⟨wr.heap.size, 1, none⟩ = false := by rw [hW0]; simp [go_sem]
        have hll : (laid (l.take i)).length = i := by simp [laid]; omega
        have hbs0 := (hbs.below hb0 (Nat.le_refl _)).mono (show wr.heap.size ≤ W0.heap.size by omega)
        have P0 := Lib.hid p0
        have P1 := Lib.hid p1
        have P2 := Lib.hid p2
        have PZ := Lib.hid pz
        have HB0 := Lib.hid hb0
        have HLL := Lib.hid hll
        clear p0 p1 p2 pz hb0 hW0 hbs hll
        refine (fieldRead (pairs (laid (l.take i))) a2 (2 * i) c2 27 (enterOf Try.func27 (by kernel_rfl) rfl) #[.pointer (some ⟨wr.heap.size, 0, none⟩)] #[] W0 hbs0
          (fun q w1 w' x => x = 1 + (X : Int) % 20 ∧ w'.cell? ⟨wr.heap.size, 1, none⟩ = some (.int .i64 i) ∧ Below wr.heap.size wr w' ∧ wr.heap.size < w'.heap.size) ?_).mono ?_
        · intro q w1 hb hq heye
          show Calls _ 27 #[.pointer (some ⟨wr.heap.size, 0, none⟩), .pointer (some ⟨q, 0, none⟩)] w1 _
          have hs1 := hb.size
          have cell1 : ∀ o, w1.cell? ⟨wr.heap.size, o, none⟩ = W0.cell? ⟨wr.heap.size, o, none⟩ := fun o => hb.cell (p := ⟨wr.heap.size, o, none⟩) (by show wr.heap.size < _; omega)
          refine (endsRead q wr.heap.size (laid (l.take i)) (1 + (X : Int) % 20) (by omega) (laid_nz _) (by rw [HLL.out]; omega) w1 heye (by omega) (by omega) ?_ ?_ ?_ ?_).mono ?_
          · rw [cell1, HLL.out]; exact P0.out
          · rw [cell1]; exact P1.out
          · rw [cell1]; exact P2.out
          · rw [hb.frozen (p := ⟨wr.heap.size, 1, none⟩) (by show wr.heap.size < _; omega)]; exact PZ.out
          rintro e w' ⟨s1, f1, f2, f3, f4, rfl, hc⟩
          rw [HLL.out] at hc
          have hbw := HB0.out.trans (hb.mono (show wr.heap.size ≤ W0.heap.size by omega))
          refine ⟨s1, fun k h1 h2 h3 => f1 k h2 h3 (by omega), _, .inl ⟨rfl, by omega⟩, rfl, hc, ⟨f2.trans hbw.os, f3.trans hbw.tape, f4.trans hbw.output, by omega, fun k hk => (f1 k (by omega) (by omega) (by omega)).trans (hbw.block k hk)⟩, by omega⟩
        · rintro e w2 ⟨q, w1, w', x, rb, rfl, hb1, h1, h2, h3, h4, h5, ⟨rfl, hc, hbl, hps⟩, hbut⟩
          have hc2 : w2.cell? ⟨wr.heap.size, 1, none⟩ = some (.int .i64 i) := (World.cell?_of_block (a := ⟨wr.heap.size, 1, none⟩) (hbut.block wr.heap.size hps (by omega))).trans hc
          have hfin : Below w.heap.size w w2 := HB.out.trans ((hbl.trans ⟨hbut.os, hbut.tape, hbut.output, hbut.size, fun k hk => hbut.block k (by have := hbl.size; omega) (by omega)⟩).mono hsz)
          have HFIN := Lib.hid hfin
          clear hc hbl hbut hfin hb1
          go_wp2_with fail
          refine (HAW.out _).mono ?_
          rintro e w3 ⟨rfl, hb3⟩
          go_wp2
          go_ret
          exact ⟨rfl, HFIN.out.trans (hb3.mono HFIN.out.size)⟩
  · have t1 : decide ((60 : Int) < (l.length : Int)) = true := by simp; omega
    go_enter Try.func3, Try.ntmps3
    go_wp2_with fail
    refine (HAW.out _).mono ?_
    rintro e w1 ⟨rfl, hb⟩
    go_wp2
    go_ret
    exact ⟨rfl, hb⟩
end Go.Proofs.Ytogcnfhmcpkdcaa
