/-
  Contracts of the reference's Bytes (are two texts the same), of Eye.Text.
-/
import Derived.Test.YtogcnfhmcpkdcaaGreatField2
import Derived.Deep.Onto
namespace Go.Proofs.YtogcnfhmcpkdcaaGreat
open Go.RowKit
set_option linter.unusedVariables false

theorem take_snocB (l : List UInt8) (k : Nat) (h : k < l.length) : l.take (k + 1) = l.take k ++ [l.getD k 0] := by
  rw [List.take_succ_eq_append_getElem h]; simp [List.getD, List.getElem?_eq_getElem h]

set_option maxHeartbeats 1000000 in
theorem r1Bytes (l m : List UInt8) (a a' : Option Addr) (n c n' c' : Nat) (w : World) (h : BsAt w w.heap.size a n c l) (h' : BsAt w w.heap.size a' n' c' m) :
    Calls Tryz.prog 19 #[.slice a n c, .slice a' n' c'] w fun e w' => e = .returned (.bool (decide (l = m))) ∧ Below w.heap.size w w' := by
  have hl := h.hlen
  have hl' := h'.hlen
  have hbg := h.hbig
  obtain ⟨d, hd⟩ : ∃ d, d = decide (l = m) := ⟨_, rfl⟩
  rw [← hd]
  have HD := Lib.hid hd
  clear hd
  by_cases hn : n = n'
  · subst hn
    have t1 : ((n : Int) != (n : Int)) = false := by simp
    go_enter Tryz.func19, Tryz.ntmps19
    go_wp2_with fail
    go_loopw [5] (fun i wr => ∃ i' : Nat, i' ≤ n ∧ i = .int .i64 i' ∧ l.take i' = m.take i' ∧ Below w.heap.size w wr)
      (fun i _ => n - (intOf i).toNat)
    case atStart => exact ⟨0, by omega, rfl, rfl, Below.refl _ _⟩
    case round =>
      obtain ⟨i', hi', rfl, heq, hbel⟩ := hrel
      by_cases hlt : i' < n
      · obtain ⟨b, o, rfl, hb, hc⟩ := h.hat (by omega)
        obtain ⟨b', o', rfl, hb', hc'⟩ := h'.hat (by omega)
        obtain ⟨x, hx⟩ : ∃ x, x = l.getD i' 0 := ⟨_, rfl⟩
        obtain ⟨y, hy⟩ : ∃ y, y = m.getD i' 0 := ⟨_, rfl⟩
        have hcx : wr.cell? ⟨b, o + i', none⟩ = some (.int .u8 (x.toNat : Int)) := by rw [hx]; exact (hbel.cell (p := ⟨b, o + i', none⟩) hb).trans (hc i' hlt)
        have hcy : wr.cell? ⟨b', o' + i', none⟩ = some (.int .u8 (y.toNat : Int)) := by rw [hy]; exact (hbel.cell (p := ⟨b', o' + i', none⟩) hb').trans (hc' i' hlt)
        have s1 : l.take (i' + 1) = l.take i' ++ [x] := by rw [hx, take_snocB l i' (by omega)]
        have s2 : m.take (i' + 1) = m.take i' ++ [y] := by rw [hy, take_snocB m i' (by omega)]
        have S1 := Lib.hid s1
        have S2 := Lib.hid s2
        have HX := Lib.hid hx
        have HY := Lib.hid hy
        have HEQ := Lib.hid heq
        have HBEL := Lib.hid hbel
        clear hc hc' s1 s2 hx hy heq h h' hbel
        have hk0 : (0 : Int) ≤ (i' : Int) := by omega
        have hk1 : (i' : Int) < (n : Int) := by omega
        by_cases hxy : x = y
        · have t2 : ((x.toNat : Int) != (y.toNat : Int)) = false := by simp [hxy]
          have HXY := Lib.hid hxy
          clear hxy
          go_wp2_with fail
          go_quiet (fail)
          go_wp2
          go_roundw
          case rel => exact ⟨i' + 1, by omega, by go_num, by rw [S1.out, S2.out, HEQ.out, HXY.out], below_drewN HBEL.out _⟩
          case measure => simp [intOf]; omega
        · have t2 : ((x.toNat : Int) != (y.toNat : Int)) = true := by
            have : x.toNat ≠ y.toNat := fun e => hxy (UInt8.toNat_inj.1 e)
            simp; omega
          have hne : decide (l = m) = false := by
            simp; rintro rfl; exact hxy (by rw [HX.out, HY.out])
          have HNE := Lib.hid hne
          clear hne hxy
          go_wp2_with fail
          go_quiet (fail)
          go_wp2
          go_ret
          exact ⟨ret_bool (by rw [HD.out, HNE.out]), below_drewN HBEL.out _⟩
      · have hin : i' = n := by omega
        have he : decide (l = m) = true := by
          rw [List.take_of_length_le (by omega), List.take_of_length_le (by omega)] at heq
          simpa using heq
        have HE := Lib.hid he
        clear he heq
        go_wp2
        go_ret
        exact ⟨ret_bool (by rw [HD.out, HE.out]), hbel⟩
  · have t1 : ((n : Int) != (n' : Int)) = true := by simp; omega
    have hne : decide (l = m) = false := by
      simp; rintro rfl; omega
    have HNE := Lib.hid hne
    clear hne
    go_enter Tryz.func19, Tryz.ntmps19
    go_wp2
    go_ret
    exact ⟨ret_bool (by rw [HD.out, HNE.out]), Below.refl _ _⟩

theorem getNum_le {most v : Nat} {l r : List UInt8} (h : getNum most l = .ok v r) : v ≤ most := by
  cases l with
  | nil => simp [getNum] at h
  | cons k t =>
    simp only [getNum] at h
    repeat' split at h
    all_goals first | (cases h; omega) | (cases h)

theorem But.ofAlloc {q : Nat} {w w' : World} {o : Obj} (h : But q (w.alloc o) w') (hq : q < w.heap.size) : But q w w' :=
  (But.ofBelow hq ((Below.refl _ w).alloc (Nat.le_refl _) _)).trans h

theorem BsAt.len_eq {w : World} {B : Nat} {a : Option Addr} {n c : Nat} {l : List UInt8} (h : BsAt w B a n c l) : BsAt w B a l.length c l := by
  have := h.hlen; subst this; exact h

set_option maxHeartbeats 1000000 in
theorem eyeText (q most : Nat) (l : List UInt8) (w : World) (h : EyeAt w q l) (hm : most < 9223372036854775808) :
    Calls Tryz.prog 93 #[.pointer (some ⟨q, 0, none⟩), .int .i64 most] w fun e w' => EyeRead q (getText most l) w w' e fun v => ∃ a c, e = .returned (.slice a v.length c) ∧ BsAt w' w'.heap.size a v.length c v ∧ w'.ownsRow w.heap.size 5 1 (.slice a v.length c) v.length (v.map bv) := by
  obtain ⟨N, hN⟩ : ∃ N, N = getText most l := ⟨_, rfl⟩
  rw [← hN]
  have HN := Lib.hid hN
  have hq := h.1
  clear hN
  go_enter Tryz.func93, Tryz.ntmps93
  go_wp2_with fail
  refine (eyeNum q most _ _ h).mono ?_
  rintro e w1 ⟨hb, hr⟩
  cases hg : getNum most l with
  | err x =>
    rw [hg] at hr
    obtain rfl : e = broke x := hr
    have hN : N = .err x := by rw [HN.out]; simp [getText, hg]
    subst hN
    clear hg
    go_wp2
    exact ⟨rfl, hb, rfl⟩
  | ok v r =>
    rw [hg] at hr
    obtain ⟨rfl, heye⟩ := hr
    have hv := getNum_le hg
    have hN : N = getTake v r := by rw [HN.out]; simp [getText, hg]
    have HN2 := Lib.hid hN
    have HB := Lib.hid hb
    clear hN hg HN h hb
    go_wp2_with fail
    refine (eyeTake q v _ _ heye).mono ?_
    rintro e w2 ⟨hb2, hno, hyes⟩
    by_cases hl : r.length < v
    · obtain rfl := hno hl
      have hN : N = .err 2 := by rw [HN2.out]; simp [getTake, hl]
      subst hN
      clear hno hyes hl
      go_wp2
      exact ⟨rfl, HB.out.trans hb2, rfl⟩
    · obtain ⟨a, rfl, hbs, heye2⟩ := hyes (by omega)
      have hN : N = .ok (r.take v) (r.drop v) := by rw [HN2.out]; simp [getTake, hl]
      subst hN
      have hq2 : q < w2.heap.size := heye2.1
      have hsz := Nat.le_trans HB.out.size hb2.size
      have HB2 := Lib.hid hb2
      have HBS := Lib.hid hbs
      have HE := Lib.hid heye2
      have hlv : (r.take v).length = v := by simp; omega
      have HLV := Lib.hid hlv
      clear hno hyes hl hb2 hbs heye2 hlv heye
      go_wp2_with fail
      refine (cloneB _ a v v _ (HBS.out.mono (Nat.le_of_lt hq2))).mono ?_
      rintro e w3 ⟨a3, c3, rfl, hbs3, hbel3, hown⟩
      go_wp2
      go_ret
      refine ⟨(HB.out.trans HB2.out).trans (But.ofBelow hq2 hbel3), ⟨a3, c3, ?_, ?_, ?_⟩, HE.out.below hbel3⟩
      · rw [HLV.out]; rfl
      · rw [HLV.out]; exact hbs3
      · rw [HLV.out]; exact World.ownsRow.mono hown (by omega)

end Go.Proofs.YtogcnfhmcpkdcaaGreat
