/-
  The law RaftSafe, walked.
-/
import Derived.Test.YtogcnfhmcpkdcaaGreatGrS
import Derived.Test.YtogcnfhmcpkdcaaGreatOpenAS
import Derived.Test.YtogcnfhmcpkdcaaGreatLaw18a
namespace Go.Proofs.YtogcnfhmcpkdcaaGreat
open Go.RowKit
set_option linter.unusedVariables false
set_option linter.unusedSimpArgs false
def longS1 (m : MStep) : Bool := decide (50 < m.b.length)
def longS (l : List MStep) : Bool := ((l.take 150).any longS1) || decide (150 < l.length)
theorem longS_no {l : List MStep} (h : longS l = false) : l.length ≤ 150 ∧ ∀ m ∈ l, m.b.length ≤ 50 := by
 simp only [longS, Bool.or_eq_false_iff, decide_eq_false_iff_not, List.any_eq_false] at h;obtain ⟨h1, h2⟩ := h;refine ⟨by omega, fun m hm => ?_⟩;rw [List.take_of_length_le (by omega)] at h1;have h3 := h1 m hm;simp [longS1] at h3;exact h3
theorem mem_take9 {α : Type} {l : List α} {i n : Nat} {x : α} (hx : l[i]? = some x) (hi : i < n) : x ∈ l.take n :=
 List.mem_of_getElem? (i := i) (by rw [List.getElem?_take, if_pos hi]; exact hx)
theorem any_take9 {α : Type} {l : List α} {p : α → Bool} {k : Nat} {x : α} (hx : l[k]? = some x) : (l.take (k + 1)).any p = ((l.take k).any p || p x) := by
 have hl : k < l.length := (List.getElem?_eq_some_iff.1 hx).1;have e : l[k] = x := by simpa [List.getElem?_eq_getElem hl] using hx
 rw [List.take_succ_eq_append_getElem hl, e, List.any_append]
 simp
set_option maxRecDepth 100000 in
set_option maxHeartbeats 1000000 in
theorem l18long (l : List MStep) (a : Option Addr) (c : Nat) (w : World) (h : SlAt w w.heap.size 4 a l.length c (cellsS l)) :
  Calls Tryz.prog 22 #[.slice a l.length c] w fun e w' => e = .returned (.bool (longS l)) ∧ w = w' := by
 have H := Hh h;have hmax := h.hmax;have hle := h.hle;unfold maxLen at hmax;obtain ⟨G, hG⟩ : ∃ G, longS l = G := ⟨_, rfl⟩
 rw [hG];have HG := Hh hG;clear h hG;go_enter Tryz.func22, Tryz.ntmps22
 go_wp2_with fail;go_loopw [3] (fun iv wr => ∃ i : Nat, iv = .int .i64 i ∧ i ≤ l.length ∧ i ≤ 150 ∧ ((l.take i).any longS1) = false ∧ wr = w) (fun iv _ => 150 - (intOf iv).toNat)
 case atStart => exact ⟨0, rfl, by omega, by omega, rfl, rfl⟩
 case round =>
  obtain ⟨i, rfl, hi, hi2, hany, rfl⟩ := hrel;have HA := Hh hany;clear hany;by_cases hil : i < l.length
  ·have t1 : decide (i < l.length) = true := by simpa using hil
   by_cases hi20 : i < 150
   ·have t2 : decide ((i : Int) < 150) = true := by simp; omega
    obtain ⟨m, hm⟩ : ∃ m, l[i]? = some m := ⟨_, List.getElem?_eq_getElem hil⟩
    have HM := Hh hm;obtain ⟨b, o, rfl, hb, hc⟩ := H.out.hat (by have := cellsS_len l; omega);have hcl := cellsS_len l;have k3 : wr.cell? ⟨b, o + i * 4 + 3, none⟩ = some (.slice m.a m.b.length m.c) := by
     rw [Nat.add_assoc, hc _ (by omega), cellsS_at l i m hm 3 (by omega)]; rfl
    have hi0 : (0 : Int) ≤ (i : Int) := by omega
    have hi1 : (i : Int) < (l.length : Int) := by omega
    clear hc hcl hm;by_cases hlong : 50 < m.b.length
    ·have t3 : decide ((50 : Int) < (m.b.length : Int)) = true := by simp; omega
     have hg : G = true := by
      rw [← HG.out, longS];have h8 : ((l.take 150).any longS1) = true := List.any_eq_true.2 ⟨m, mem_take9 HM.out (by omega), by simp [longS1, hlong]⟩;rw [h8]; rfl
     subst hg;clear hlong;go_wp2;(try rw [Exit.noGoto_ret]);go_ret;exact ⟨rfl, rfl⟩
    ·have t3 : decide ((50 : Int) < (m.b.length : Int)) = false := by simp; omega
     have HN := Hh (show ((l.take (i + 1)).any longS1) = false from by rw [any_take9 HM.out, HA.out]; simp [longS1, hlong]);clear hlong;go_wp2;go_roundw
     case rel => exact ⟨i + 1, by go_num, by omega, by omega, HN.out, by first | rfl | trivial⟩
     case measure => simp [intOf]; omega
   ·have t2 : decide ((i : Int) < 150) = false := by simp; omega
    have hie : i = 150 := by omega
    have hg : G = true := by rw [← HG.out, longS]; simp; omega
    have t4 : decide ((150 : Int) < (l.length : Int)) = true := by simp; omega
    subst hg;go_wp2;(try rw [Exit.noGoto_ret]);go_ret;exact ⟨rfl, rfl⟩
  ·have t1 : decide (i < l.length) = false := by simpa using hil
   have hie : i = l.length := by omega
   have hal : ((l.take 150).any longS1) = false := by
    have h9 := HA.out;rw [hie, List.take_of_length_le (Nat.le_refl _)] at h9;rw [List.take_of_length_le (by omega)];exact h9
   have t4 : decide ((150 : Int) < (l.length : Int)) = false := by simp; omega
   have hg : G = false := by
    rw [← HG.out, longS, hal]
    simp; omega
   subst hg;clear hie hal;go_wp2;(try rw [Exit.noGoto_ret]);go_ret;exact ⟨rfl, rfl⟩
theorem at9_made {w : World} {B g n : Nat} {M : GMem} (h1 : 1 ≤ n) (h7 : n ≤ 7) (h : GrAt w B g 0 (PGroup.made n) M) : At9 w B g n 0 0 := by
 refine ⟨Gh.zero, PGroup.made n, M, 0, ⟨si_made n h1 h7, .made⟩, h, fun q hq => ?_⟩;have hr : (PGroup.made n).rs[0]? = some (PRaft.new ((0 : Nat) : Int) n) := by
  show ((List.range n).map fun (j : Nat) => PRaft.new (j : Int) n)[0]? = _;rw [List.getElem?_map, List.getElem?_range (by omega)]; rfl
 have h9 := (h.rf 0 _ q hr hq).po.q;have e : (PRaft.new ((0 : Nat) : Int) n).out = [] := rfl;rw [e, List.map_eq_nil_iff] at h9;exact h9
set_option maxRecDepth 100000 in
set_option maxHeartbeats 4000000 in
theorem raftSafe_calls (a0 : Nat) (h0 : a0 < 256) (l : List MStep) (a : Option Addr) (c : Nat) (w : World) (hs : SlAt w w.heap.size 4 a l.length c (cellsS l)) (hr : ∀ m ∈ l, m.Is w w.heap.size) :
  Calls Tryz.prog 4 #[.int .u8 a0, .slice a l.length c] w fun e w' => e = .returned (.bool true) ∧ Below w.heap.size w w' := by
 have HS := Hh hs;have HX := Hh hr;have hmax := hs.hmax;have hle := hs.hle;unfold maxLen at hmax;clear hs hr;go_enter Tryz.func4, Tryz.ntmps4
 go_wp2_with fail;refine (l18long l a c _ HS.out).mono ?_;rintro e w1 ⟨rfl, rfl⟩;cases hg : longS l with
 | true =>
  clear hg;go_wp2_with fail;refine (l18awake _).mono ?_;rintro e w2 ⟨rfl, hb2⟩;have HB2 := Hh hb2;clear hb2;go_wp2;go_ret;exact ⟨rfl, HB2.out⟩
 | false =>
  have HG := Hh (longS_no hg);have hl150 := (longS_no hg).1;clear hg;obtain ⟨k, hk⟩ : ∃ k : Nat, 1 + (a0 : Int) % 5 = (k : Int) := ⟨1 + a0 % 5, by omega⟩
  have hkb : 1 ≤ k ∧ k ≤ 7 := by omega
  have hk5 : k ≤ 5 := by omega
  go_wp2_with fail;clear hk;refine (l18made k hkb.1 hkb.2 _).mono ?_;rintro e w2 ⟨g, M, rfl, hg2, hb2⟩;have HA2 := Hh (at9_made hkb.1 hkb.2 hg2);have HB2 := Hh hb2;clear hg2 hb2;go_wp2_with fail;obtain ⟨wo, hwo⟩ : ∃ wo : World, wo = w := ⟨_, rfl⟩
  rw [← hwo] at HS HX HB2 HA2;have HWO := Hh hwo;clear hwo;go_loopw [6] (fun iv wr => ∃ i : Nat, iv = .int .i64 i ∧ i ≤ l.length ∧ At9 wr wo.heap.size g k (7 * i) (5 * i) ∧ Below wo.heap.size wo wr) (fun iv _ => l.length - (intOf iv).toNat)
  case atStart => exact ⟨0, rfl, by omega, HA2.out, HB2.out⟩
  case round =>
   obtain ⟨i, rfl, hi, hat, hbe⟩ := hrel;have HAT := Hh hat;have HBE := Hh hbe;have hsz := hbe.size;clear hat hbe;by_cases hil : i < l.length
   ·have t1 : decide ((i : Int) < (l.length : Int)) = true := by simpa using hil
    have t1n : decide (i < l.length) = true := by simpa using hil
    obtain ⟨m, hm⟩ : ∃ m, l[i]? = some m := ⟨_, List.getElem?_eq_getElem hil⟩
    have hml := List.mem_of_getElem? hm;obtain ⟨b, o, rfl, hb, hc⟩ := HS.out.hat (by have := cellsS_len l; omega);have hcl := cellsS_len l;have key : ∀ j v, j < 4 → m.cells[j]? = some v → wr.cell? ⟨b, o + i * 4 + j, none⟩ = some v := fun j v hj hv => by
     rw [HBE.out.cell (p := ⟨b, o + i * 4 + j, none⟩) hb, Nat.add_assoc, hc _ (by omega), cellsS_at l i m hm j hj, hv]
    have k0 : wr.cell? ⟨b, o + i * 4, none⟩ = some (.int .i64 m.d) := key 0 _ (by omega) rfl;have k1 : wr.cell? ⟨b, o + i * 4 + 1, none⟩ = some (.int .i64 m.i) := key 1 _ (by omega) rfl;have k2 : wr.cell? ⟨b, o + i * 4 + 2, none⟩ = some (.int .i64 m.k) := key 2 _ (by omega) rfl;have k3 : wr.cell? ⟨b, o + i * 4 + 3, none⟩ = some (.slice m.a m.b.length m.c) := key 3 _ (by omega) rfl;have hi0 : (0 : Int) ≤ (i : Int) := by omega
    have hi1 : (i : Int) < (l.length : Int) := by omega
    have hmb := HG.out.2 m hml;have HMB := Hh (((HX.out m hml (by omega)).below HBE.out (Nat.le_refl _)).mono hsz);clear hc hcl key hm hml;go_wp2_with fail;clear k0 k1 k2 k3;refine (l18step HAT.out hk5 (by omega) HMB.out hmb).mono ?_;rintro e w3 ⟨rfl, hat3, hb3⟩;have HAT3 := Hh hat3;have HB3 := Hh (HBE.out.trans hb3);have cr : w3.cell? ⟨g, 8, none⟩ = some (.bool true) := by
     obtain ⟨gh, G, M3, ci, h9⟩ := hat3;rw [← h9.si.right]; exact h9.gr.cr
    clear hat3 hb3;go_wp2_with fail;go_roundw
    case rel => exact ⟨i + 1, by go_num, by omega, by rw [show 7 * (i + 1) = 7 * i + 7 by omega, show 5 * (i + 1) = 5 * i + 5 by omega]; exact HAT3.out, HB3.out⟩
    case measure => simp [intOf]; omega
   ·have t1 : decide ((i : Int) < (l.length : Int)) = false := by simpa using hil
    have t1n : decide (i < l.length) = false := by simpa using hil
    go_wp2_with fail;refine (l18awake _).mono ?_;rintro e w9 ⟨rfl, hb9⟩;have HB9 := Hh (HBE.out.trans (hb9.mono hsz));clear hb9;go_wp2;go_ret;exact ⟨rfl, by rw [← HWO.out]; exact HB9.out⟩
end Go.Proofs.YtogcnfhmcpkdcaaGreat
