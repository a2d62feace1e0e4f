/-
  The law VoteMeet: any two lots of enough replicas share one, and what is agreed one of any enough has. No condition.
-/
import Derived.Test.YtogcnfhmcpkdcaaVote2
import Derived.Laws.ShiftsVar
namespace Go.Proofs.Ytogcnfhmcpkdcaa
open Go.RowKit
set_option linter.unusedVariables false

/-- how many of the first i are in the lot -/
def cntP (p : Nat → Bool) : Nat → Nat
  | 0 => 0
  | i + 1 => cntP p i + (if p i then 1 else 0)

theorem cntP_le (p : Nat → Bool) (i : Nat) : cntP p i ≤ i := by
  induction i with
  | zero => exact Nat.le_refl _
  | succ i ih => unfold cntP; split <;> omega

theorem cntP_meet (p q : Nat → Bool) (i : Nat) : cntP p i + cntP q i ≤ i + cntP (fun j => p j && q j) i := by
  induction i with
  | zero => simp [cntP]
  | succ i ih =>
    unfold cntP
    cases p i <;> cases q i <;> simp <;> omega

theorem cntP_pos (p : Nat → Bool) (i : Nat) (h : 0 < cntP p i) : ∃ j, j < i ∧ p j = true := by
  induction i with
  | zero => simp [cntP] at h
  | succ i ih =>
    cases hp : p i
    · unfold cntP at h; simp [hp] at h
      obtain ⟨j, h1, h2⟩ := ih h
      exact ⟨j, by omega, h2⟩
    · exact ⟨i, by omega, hp⟩

theorem cntP_ge (zs : List Int) (x : Int) : ∀ i, i ≤ zs.length → cntP (fun j => decide (x ≤ zs.getD j 0)) i = cntGe (zs.take i) x := by
  intro i
  induction i with
  | zero => intro _; simp [cntP, cntGe]
  | succ i ih =>
    intro hi
    have ht : zs.take (i + 1) = zs.take i ++ [zs.getD i 0] := by
      rw [List.take_succ_eq_append_getElem (by omega)]; simp [List.getD, List.getElem?_eq_getElem (show i < zs.length by omega)]
    rw [ht, cntGe_append, ← ih (by omega)]
    show cntP _ i + (if decide (x ≤ zs.getD i 0) = true then 1 else 0) = _
    congr 1
    unfold cntGe
    by_cases h : x ≤ zs.getD i 0
    · rw [if_pos (by simpa using h), List.filter_cons_of_pos (by simpa using h)]; rfl
    · rw [if_neg (by simpa using h), List.filter_cons_of_neg (by simpa using h)]; rfl

/-- was one found among the first i? -/
def foundP (c : Bool) (p : Nat → Bool) : Nat → Bool
  | 0 => c
  | i + 1 => foundP c p i || p i
theorem foundP_of (c : Bool) (p : Nat → Bool) : ∀ i, (∃ j, j < i ∧ p j = true) → foundP c p i = true := by
  intro i
  induction i with
  | zero => rintro ⟨j, h, _⟩; omega
  | succ i ih =>
    rintro ⟨j, h1, h2⟩
    unfold foundP
    rcases Nat.lt_or_eq_of_le (Nat.le_of_lt_succ h1) with h | h
    · rw [ih ⟨j, h, h2⟩]; rfl
    · subst h; rw [h2]; simp
theorem foundP_base (p : Nat → Bool) : ∀ i, foundP true p i = true := by
  intro i
  induction i with
  | zero => rfl
  | succ i ih => unfold foundP; rw [ih]; rfl

def bitOf (a : Int) (i : Nat) : Bool := (a / 2 ^ i).tmod 2 == 1

/-- enough have what is agreed -/
theorem agreed_cnt (zs : List Int) (h1 : 1 ≤ zs.length) (h7 : zs.length ≤ 7) : zs.length / 2 + 1 ≤ cntGe zs (agreed zs) := by
  have h := bestOf_agreed zs h1 h7
  have hi := (bestOf_inv zs zs).1
  rw [h] at hi
  exact (hi rfl).2

theorem meets (zs : List Int) (p : Nat → Bool) (h1 : 1 ≤ zs.length) (h7 : zs.length ≤ 7) (hp : zs.length / 2 + 1 ≤ cntP p zs.length) :
    ∃ j, j < zs.length ∧ (p j && decide (agreed zs ≤ zs.getD j 0)) = true := by
  have hc := agreed_cnt zs h1 h7
  have hq := cntP_ge zs (agreed zs) zs.length (Nat.le_refl _)
  rw [List.take_length] at hq
  have hm := cntP_meet p (fun j => decide (agreed zs ≤ zs.getD j 0)) zs.length
  exact cntP_pos _ _ (by omega)

set_option maxRecDepth 100000 in
set_option maxHeartbeats 4000000 in
theorem l16VoteMeet_in (n : Nat) (a b : Int) (ha : 0 ≤ a) (ha' : a ≤ 255) (hb : 0 ≤ b) (hb' : b ≤ 255) (hn : 1 ≤ n) (hn' : n ≤ 7) (x0 x1 x2 x3 x4 x5 x6 : Int) (w : World) :
    Calls Try.prog 19 #[.int .i64 n, .int .u8 a, .int .u8 b, .agg #[.int .i64 x0, .int .i64 x1, .int .i64 x2, .int .i64 x3, .int .i64 x4, .int .i64 x5, .int .i64 x6]] w fun e w' =>
      e = .returned (.bool true) ∧ Below w.heap.size w w' := by
  have he : enough (n : Int) = (n : Int) / 2 + 1 := by unfold enough; rw [if_neg (by omega)]
  have HE := Lib.hid he
  clear he
  have b1 : decide ((n : Int) < 1) = false := by simp; omega
  have b2 : decide (7 < (n : Int)) = false := by simp; omega
  -- the world behind the box of the array
  obtain ⟨W, hW⟩ : ∃ W, W = w.alloc (.cells #[.int .i64 x0, .int .i64 x1, .int .i64 x2, .int .i64 x3, .int .i64 x4, .int .i64 x5, .int .i64 x6] 123) := ⟨_, rfl⟩
  have hWB : Below w.heap.size w W := by rw [hW]; exact (Below.refl _ _).alloc (Nat.le_refl _) _
  have hWs : w.heap.size < W.heap.size := by rw [hW]; simp
  have hWc : ∀ j, j < 7 → W.cell? ⟨w.heap.size, j, none⟩ = some (.int .i64 ([x0, x1, x2, x3, x4, x5, x6].getD j 0)) := by
    intro j hj
    rw [hW, World.cell?_alloc_new]
    match j, hj with
    | 0, _ => rfl
    | 1, _ => rfl
    | 2, _ => rfl
    | 3, _ => rfl
    | 4, _ => rfl
    | 5, _ => rfl
    | 6, _ => rfl
  have HW := Lib.hid hW
  have HWC := Lib.hid hWc
  clear hW hWc
  go_enter Try.func19, Try.ntmps19
  go_wp2_with fail
  rw [← HW.out]
  refine (voteEnough_calls _ _).mono ?_
  rintro e w1 ⟨rfl, rfl⟩
  rw [HE.out]
  go_wp2_with fail
  go_loopw [10, 11, 12, 13] (fun x y z i wr => ∃ i' : Nat, i' ≤ n ∧ i = .int .i64 i' ∧ x = .int .i64 (cntP (bitOf a) i' : Nat) ∧ y = .int .i64 (cntP (bitOf b) i' : Nat) ∧ z = .int .i64 (cntP (fun j => bitOf a j && bitOf b j) i' : Nat) ∧
      Below W.heap.size W wr)
    (fun _ _ _ i _ => n - (intOf i).toNat)
  case atStart => exact ⟨0, by omega, rfl, rfl, rfl, rfl, Below.refl _ _⟩
  case round =>
    obtain ⟨i', hi', rfl, rfl, rfl, rfl, hbel⟩ := hrel
    have l1 := cntP_le (bitOf a) i'
    have l2 := cntP_le (bitOf b) i'
    have l3 := cntP_le (fun j => bitOf a j && bitOf b j) i'
    by_cases hlt : i' < n
    · have r1 : cntP (bitOf a) (i' + 1) = cntP (bitOf a) i' + (if bitOf a i' then 1 else 0) := rfl
      have r2 : cntP (bitOf b) (i' + 1) = cntP (bitOf b) i' + (if bitOf b i' then 1 else 0) := rfl
      have r3 : cntP (fun j => bitOf a j && bitOf b j) (i' + 1) = cntP (fun j => bitOf a j && bitOf b j) i' + (if bitOf a i' && bitOf b i' then 1 else 0) := rfl
      generalize cntP (bitOf a) i' = ca at *
      generalize cntP (bitOf b) i' = cb at *
      generalize cntP (fun j => bitOf a j && bitOf b j) i' = cc at *
      have R := Lib.hid (And.intro r1 (And.intro r2 r3))
      clear r1 r2 r3
      have i0 : (0 : Int) ≤ (i' : Int) := by omega
      cases hA : bitOf a i'
      · have tA : ((a / 2 ^ i').tmod 2 == 1) = false := hA
        have HA := Lib.hid hA
        clear hA
        cases hB : bitOf b i'
        · have tB : ((b / 2 ^ i').tmod 2 == 1) = false := hB
          have HB := Lib.hid hB
          clear hB
          go_wp2_with fail
          go_quiet (fail)
          go_wp2
          go_roundw
          case rel => exact ⟨i' + 1, by omega, by go_num, by rw [R.out.1, HA.out]; go_num, by rw [R.out.2.1, HB.out]; go_num, by rw [R.out.2.2, HA.out]; go_num, below_drewN hbel _⟩
          case measure => simp [intOf]; omega
        · have tB : ((b / 2 ^ i').tmod 2 == 1) = true := hB
          have HB := Lib.hid hB
          clear hB
          go_wp2_with fail
          go_quiet (fail)
          go_wp2
          go_roundw
          case rel => exact ⟨i' + 1, by omega, by go_num, by rw [R.out.1, HA.out]; go_num, by rw [R.out.2.1, HB.out]; go_num, by rw [R.out.2.2, HA.out]; go_num, below_drewN hbel _⟩
          case measure => simp [intOf]; omega
      · have tA : ((a / 2 ^ i').tmod 2 == 1) = true := hA
        have HA := Lib.hid hA
        clear hA
        cases hB : bitOf b i'
        · have tB : ((b / 2 ^ i').tmod 2 == 1) = false := hB
          have HB := Lib.hid hB
          clear hB
          go_wp2_with fail
          go_quiet (fail)
          go_wp2
          go_roundw
          case rel => exact ⟨i' + 1, by omega, by go_num, by rw [R.out.1, HA.out]; go_num, by rw [R.out.2.1, HB.out]; go_num, by rw [R.out.2.2, HA.out, HB.out]; go_num, below_drewN hbel _⟩
          case measure => simp [intOf]; omega
        · have tB : ((b / 2 ^ i').tmod 2 == 1) = true := hB
          have HB := Lib.hid hB
          clear hB
          go_wp2_with fail
          go_quiet (fail)
          go_wp2
          go_roundw
          case rel => exact ⟨i' + 1, by omega, by go_num, by rw [R.out.1, HA.out]; go_num, by rw [R.out.2.1, HB.out]; go_num, by rw [R.out.2.2, HA.out, HB.out]; go_num, below_drewN hbel _⟩
          case measure => simp [intOf]; omega
    · obtain rfl : i' = n := by omega
      have hmeet := cntP_meet (bitOf a) (bitOf b) i'
      have HM : Hid (∀ zs : List Int, zs.length = i' → i' / 2 + 1 ≤ cntP (bitOf a) i' → ∃ j, j < i' ∧ (bitOf a j && decide (agreed zs ≤ zs.getD j 0)) = true) :=
        Lib.hid fun zs hz hp => by subst hz; exact meets zs (bitOf a) (by omega) (by omega) hp
      generalize cntP (bitOf a) i' = ca at *
      generalize cntP (bitOf b) i' = cb at *
      generalize cntP (fun j => bitOf a j && bitOf b j) i' = cc at *
      have hzl : (([x0, x1, x2, x3, x4, x5, x6] : List Int).take i').length = i' := by simp; omega
      have hok : agreedOk (([x0, x1, x2, x3, x4, x5, x6] : List Int).take i') = true := by simp [agreedOk, hzl]; omega
      have hsl : ∀ W' : World, Below W.heap.size W W' → SlAt W' W'.heap.size 1 (some ⟨w.heap.size, 0, none⟩) (([x0, x1, x2, x3, x4, x5, x6] : List Int).take i').length 7 ((([x0, x1, x2, x3, x4, x5, x6] : List Int).take i').map (Value.int .i64)) := by
        intro W' hb'
        refine ⟨by simp, by rw [hzl]; omega, by simp [maxLen], fun e => by simp at e, fun _ => ⟨w.heap.size, 0, rfl, by have := hb'.size; omega, fun j hj => ?_⟩⟩
        have hj' : j < i' := by have := hj; simp at this; omega
        rw [Nat.zero_add, hb'.cell (p := ⟨w.heap.size, j, none⟩) hWs, HWC.out j (by omega)]
        have hj7 : j < ([x0, x1, x2, x3, x4, x5, x6] : List Int).length := by simp; omega
        rw [List.getElem?_map, List.getElem?_take_of_lt hj', List.getElem?_eq_getElem hj7]
        simp [List.getD, List.getElem?_eq_getElem hj7]
      have hget : ∀ j, j < i' → (([x0, x1, x2, x3, x4, x5, x6] : List Int).take i').getD j 0 = ([x0, x1, x2, x3, x4, x5, x6] : List Int).getD j 0 := by
        intro j hj; simp only [List.getD, List.getElem?_take_of_lt hj]
      have HMs := HM.out _ hzl
      generalize hzs : (([x0, x1, x2, x3, x4, x5, x6] : List Int).take i') = zs at *
      have hva : ∀ W' : World, Below W.heap.size W W' → Calls Try.prog 80 #[.slice (some ⟨w.heap.size, 0, none⟩) i' 7] W' fun e w' => e = .returned (.tuple #[.int .i64 (agreed zs), .bool true]) ∧ Below W'.heap.size W' w' := by
        intro W' hb'
        have := voteAgreed_calls zs (some ⟨w.heap.size, 0, none⟩) 7 W' (hsl W' hb')
        rw [hok, hzl] at this
        exact this
      have HVA := Lib.hid hva
      have hi7 : (i' : Int) ≤ 7 := by omega
      have HGET := Lib.hid hget
      have HMS := Lib.hid HMs
      have HL := Lib.hid hzl
      clear hsl hok hva hget hzs HM HMs hzl
      by_cases hca : (i' : Int) / 2 + 1 ≤ (ca : Int)
      · have q1 : decide ((i' : Int) / 2 + 1 ≤ (ca : Int)) = true := by simpa using hca
        by_cases hcb : (i' : Int) / 2 + 1 ≤ (cb : Int)
        · have q2 : decide ((i' : Int) / 2 + 1 ≤ (cb : Int)) = true := by simpa using hcb
          have q3 : (((cc : Nat) : Int) == 0) = false := by simp; omega
          have q4 : decide ((ca : Int) < (i' : Int) / 2 + 1) = false := by simp; omega
          go_wp2_with fail
          refine (HVA.out _ hbel).mono ?_
          rintro e w1 ⟨rfl, hb1⟩
          obtain ⟨ag, hag⟩ : ∃ ag, ag = agreed zs := ⟨_, rfl⟩
          rw [← hag]
          have HAG := Lib.hid hag
          clear hag
          have hbW : Below W.heap.size W w1 := hbel.trans (hb1.mono hbel.size)
          go_wp2_with fail
          go_loopw [18, 19] (fun fo k wr => ∃ k' : Nat, k' ≤ i' ∧ k = .int .i64 k' ∧ fo = .bool (foundP false (fun j => bitOf a j && decide (ag ≤ ([x0, x1, x2, x3, x4, x5, x6] : List Int).getD j 0)) k') ∧ Below W.heap.size W wr)
            (fun _ k _ => i' - (intOf k).toNat)
          case atStart => exact ⟨0, by omega, rfl, rfl, hbW⟩
          case round =>
            obtain ⟨k', hk', rfl, rfl, hbel3⟩ := hrel
            by_cases hlt : k' < i'
            · have r1 : foundP false (fun j => bitOf a j && decide (ag ≤ ([x0, x1, x2, x3, x4, x5, x6] : List Int).getD j 0)) (k' + 1) = (foundP false (fun j => bitOf a j && decide (ag ≤ ([x0, x1, x2, x3, x4, x5, x6] : List Int).getD j 0)) k' || (bitOf a k' && decide (ag ≤ ([x0, x1, x2, x3, x4, x5, x6] : List Int).getD k' 0))) := rfl
              generalize foundP false (fun j => bitOf a j && decide (ag ≤ ([x0, x1, x2, x3, x4, x5, x6] : List Int).getD j 0)) k' = fo at *
              have hcx : wr.cell? ⟨w.heap.size, k', none⟩ = some (.int .i64 (([x0, x1, x2, x3, x4, x5, x6] : List Int).getD k' 0)) := (hbel3.cell (p := ⟨w.heap.size, k', none⟩) hWs).trans (HWC.out k' (by omega))
              generalize ([x0, x1, x2, x3, x4, x5, x6] : List Int).getD k' 0 = xk at *
              have R := Lib.hid r1
              clear r1
              have k0 : (0 : Int) ≤ (k' : Int) := by omega
              have k7 : (k' : Int) < 7 := by omega
              cases fo
              · cases hA : bitOf a k'
                · have tA : ((a / 2 ^ k').tmod 2 == 1) = false := hA
                  have HA := Lib.hid hA
                  clear hA
                  go_wp2
                  go_roundw
                  case rel => exact ⟨k' + 1, by omega, by go_num, by rw [R.out, HA.out]; rfl, hbel3⟩
                  case measure => simp [intOf]; omega
                · have tA : ((a / 2 ^ k').tmod 2 == 1) = true := hA
                  have HA := Lib.hid hA
                  clear hA
                  go_wp2
                  go_roundw
                  case rel => exact ⟨k' + 1, by omega, by go_num, by rw [R.out, HA.out]; rfl, hbel3⟩
                  case measure => simp [intOf]; omega
              · go_wp2
                go_roundw
                case rel => exact ⟨k' + 1, by omega, by go_num, by rw [R.out]; rfl, hbel3⟩
                case measure => simp [intOf]; omega
            · obtain rfl : k' = i' := by omega
              have hfin : foundP false (fun j => bitOf a j && decide (ag ≤ ([x0, x1, x2, x3, x4, x5, x6] : List Int).getD j 0)) k' = true := foundP_of _ _ _ (by obtain ⟨j, h1, h2⟩ := HMS.out (by omega); exact ⟨j, h1, by rw [← HGET.out j h1]; rw [← HAG.out] at h2; exact h2⟩)
              rw [hfin]
              clear hfin
              go_wp2_with fail
              refine (l16awake_calls _).mono ?_
              rintro e w5 ⟨rfl, hb5⟩
              go_wp2
              go_ret
              exact ⟨rfl, (hWB.trans (hbel3.mono (by omega))).trans (hb5.mono (by have := hbel3.size; omega))⟩
        · have q2 : decide ((i' : Int) / 2 + 1 ≤ (cb : Int)) = false := by simpa using hcb
          have q4 : decide ((ca : Int) < (i' : Int) / 2 + 1) = false := by simp; omega
          go_wp2_with fail
          refine (HVA.out _ hbel).mono ?_
          rintro e w1 ⟨rfl, hb1⟩
          obtain ⟨ag, hag⟩ : ∃ ag, ag = agreed zs := ⟨_, rfl⟩
          rw [← hag]
          have HAG := Lib.hid hag
          clear hag
          have hbW : Below W.heap.size W w1 := hbel.trans (hb1.mono hbel.size)
          go_wp2_with fail
          go_loopw [18, 19] (fun fo k wr => ∃ k' : Nat, k' ≤ i' ∧ k = .int .i64 k' ∧ fo = .bool (foundP false (fun j => bitOf a j && decide (ag ≤ ([x0, x1, x2, x3, x4, x5, x6] : List Int).getD j 0)) k') ∧ Below W.heap.size W wr)
            (fun _ k _ => i' - (intOf k).toNat)
          case atStart => exact ⟨0, by omega, rfl, rfl, hbW⟩
          case round =>
            obtain ⟨k', hk', rfl, rfl, hbel3⟩ := hrel
            by_cases hlt : k' < i'
            · have r1 : foundP false (fun j => bitOf a j && decide (ag ≤ ([x0, x1, x2, x3, x4, x5, x6] : List Int).getD j 0)) (k' + 1) = (foundP false (fun j => bitOf a j && decide (ag ≤ ([x0, x1, x2, x3, x4, x5, x6] : List Int).getD j 0)) k' || (bitOf a k' && decide (ag ≤ ([x0, x1, x2, x3, x4, x5, x6] : List Int).getD k' 0))) := rfl
              generalize foundP false (fun j => bitOf a j && decide (ag ≤ ([x0, x1, x2, x3, x4, x5, x6] : List Int).getD j 0)) k' = fo at *
              have hcx : wr.cell? ⟨w.heap.size, k', none⟩ = some (.int .i64 (([x0, x1, x2, x3, x4, x5, x6] : List Int).getD k' 0)) := (hbel3.cell (p := ⟨w.heap.size, k', none⟩) hWs).trans (HWC.out k' (by omega))
              generalize ([x0, x1, x2, x3, x4, x5, x6] : List Int).getD k' 0 = xk at *
              have R := Lib.hid r1
              clear r1
              have k0 : (0 : Int) ≤ (k' : Int) := by omega
              have k7 : (k' : Int) < 7 := by omega
              cases fo
              · cases hA : bitOf a k'
                · have tA : ((a / 2 ^ k').tmod 2 == 1) = false := hA
                  have HA := Lib.hid hA
                  clear hA
                  go_wp2
                  go_roundw
                  case rel => exact ⟨k' + 1, by omega, by go_num, by rw [R.out, HA.out]; rfl, hbel3⟩
                  case measure => simp [intOf]; omega
                · have tA : ((a / 2 ^ k').tmod 2 == 1) = true := hA
                  have HA := Lib.hid hA
                  clear hA
                  go_wp2
                  go_roundw
                  case rel => exact ⟨k' + 1, by omega, by go_num, by rw [R.out, HA.out]; rfl, hbel3⟩
                  case measure => simp [intOf]; omega
              · go_wp2
                go_roundw
                case rel => exact ⟨k' + 1, by omega, by go_num, by rw [R.out]; rfl, hbel3⟩
                case measure => simp [intOf]; omega
            · obtain rfl : k' = i' := by omega
              have hfin : foundP false (fun j => bitOf a j && decide (ag ≤ ([x0, x1, x2, x3, x4, x5, x6] : List Int).getD j 0)) k' = true := foundP_of _ _ _ (by obtain ⟨j, h1, h2⟩ := HMS.out (by omega); exact ⟨j, h1, by rw [← HGET.out j h1]; rw [← HAG.out] at h2; exact h2⟩)
              rw [hfin]
              clear hfin
              go_wp2_with fail
              refine (l16awake_calls _).mono ?_
              rintro e w5 ⟨rfl, hb5⟩
              go_wp2
              go_ret
              exact ⟨rfl, (hWB.trans (hbel3.mono (by omega))).trans (hb5.mono (by have := hbel3.size; omega))⟩
      · have q1 : decide ((i' : Int) / 2 + 1 ≤ (ca : Int)) = false := by simpa using hca
        have q4 : decide ((ca : Int) < (i' : Int) / 2 + 1) = true := by simp; omega
        go_wp2_with fail
        refine (HVA.out _ hbel).mono ?_
        rintro e w1 ⟨rfl, hb1⟩
        obtain ⟨ag, hag⟩ : ∃ ag, ag = agreed zs := ⟨_, rfl⟩
        rw [← hag]
        have HAG := Lib.hid hag
        clear hag
        have hbW : Below W.heap.size W w1 := hbel.trans (hb1.mono hbel.size)
        go_wp2_with fail
        go_loopw [18, 19] (fun fo k wr => ∃ k' : Nat, k' ≤ i' ∧ k = .int .i64 k' ∧ fo = .bool (foundP true (fun j => bitOf a j && decide (ag ≤ ([x0, x1, x2, x3, x4, x5, x6] : List Int).getD j 0)) k') ∧ Below W.heap.size W wr)
          (fun _ k _ => i' - (intOf k).toNat)
        case atStart => exact ⟨0, by omega, rfl, rfl, hbW⟩
        case round =>
          obtain ⟨k', hk', rfl, rfl, hbel3⟩ := hrel
          by_cases hlt : k' < i'
          · have r1 : foundP true (fun j => bitOf a j && decide (ag ≤ ([x0, x1, x2, x3, x4, x5, x6] : List Int).getD j 0)) (k' + 1) = (foundP true (fun j => bitOf a j && decide (ag ≤ ([x0, x1, x2, x3, x4, x5, x6] : List Int).getD j 0)) k' || (bitOf a k' && decide (ag ≤ ([x0, x1, x2, x3, x4, x5, x6] : List Int).getD k' 0))) := rfl
            generalize foundP true (fun j => bitOf a j && decide (ag ≤ ([x0, x1, x2, x3, x4, x5, x6] : List Int).getD j 0)) k' = fo at *
            have hcx : wr.cell? ⟨w.heap.size, k', none⟩ = some (.int .i64 (([x0, x1, x2, x3, x4, x5, x6] : List Int).getD k' 0)) := (hbel3.cell (p := ⟨w.heap.size, k', none⟩) hWs).trans (HWC.out k' (by omega))
            generalize ([x0, x1, x2, x3, x4, x5, x6] : List Int).getD k' 0 = xk at *
            have R := Lib.hid r1
            clear r1
            have k0 : (0 : Int) ≤ (k' : Int) := by omega
            have k7 : (k' : Int) < 7 := by omega
            cases fo
            · cases hA : bitOf a k'
              · have tA : ((a / 2 ^ k').tmod 2 == 1) = false := hA
                have HA := Lib.hid hA
                clear hA
                go_wp2
                go_roundw
                case rel => exact ⟨k' + 1, by omega, by go_num, by rw [R.out, HA.out]; rfl, hbel3⟩
                case measure => simp [intOf]; omega
              · have tA : ((a / 2 ^ k').tmod 2 == 1) = true := hA
                have HA := Lib.hid hA
                clear hA
                go_wp2
                go_roundw
                case rel => exact ⟨k' + 1, by omega, by go_num, by rw [R.out, HA.out]; rfl, hbel3⟩
                case measure => simp [intOf]; omega
            · go_wp2
              go_roundw
              case rel => exact ⟨k' + 1, by omega, by go_num, by rw [R.out]; rfl, hbel3⟩
              case measure => simp [intOf]; omega
          · obtain rfl : k' = i' := by omega
            have hfin : foundP true (fun j => bitOf a j && decide (ag ≤ ([x0, x1, x2, x3, x4, x5, x6] : List Int).getD j 0)) k' = true := foundP_base _ _
            rw [hfin]
            clear hfin
            go_wp2_with fail
            refine (l16awake_calls _).mono ?_
            rintro e w5 ⟨rfl, hb5⟩
            go_wp2
            go_ret
            exact ⟨rfl, (hWB.trans (hbel3.mono (by omega))).trans (hb5.mono (by have := hbel3.size; omega))⟩
theorem l16VoteMeet_calls (n : Int) (a b : Int) (ha : 0 ≤ a) (ha' : a ≤ 255) (hb : 0 ≤ b) (hb' : b ≤ 255) (x0 x1 x2 x3 x4 x5 x6 : Int) (w : World) :
    Calls Try.prog 19 #[.int .i64 n, .int .u8 a, .int .u8 b, .agg #[.int .i64 x0, .int .i64 x1, .int .i64 x2, .int .i64 x3, .int .i64 x4, .int .i64 x5, .int .i64 x6]] w fun e w' =>
      e = .returned (.bool true) ∧ Below w.heap.size w w' := by
  by_cases h : 1 ≤ n ∧ n ≤ 7
  · obtain ⟨m, rfl⟩ := Int.eq_ofNat_of_zero_le (show 0 ≤ n by omega)
    exact l16VoteMeet_in m a b ha ha' hb hb' (by omega) (by omega) x0 x1 x2 x3 x4 x5 x6 w
  · have he : enough n = 0 := by unfold enough; rw [if_pos (by omega)]
    have HE := Lib.hid he
    clear he
    rcases (show n < 1 ∨ (1 ≤ n ∧ 7 < n) by omega) with h1 | ⟨h1, h2⟩
    · have b1 : decide (n < 1) = true := by simp; omega
      go_enter Try.func19, Try.ntmps19
      go_wp2_with fail
      refine (voteEnough_calls _ _).mono ?_
      rintro e w1 ⟨rfl, rfl⟩
      rw [HE.out]
      go_wp2_with fail
      refine (l16awake_calls _).mono ?_
      rintro e w5 ⟨rfl, hb5⟩
      go_wp2
      go_ret
      exact ⟨rfl, ((Below.refl _ _).alloc (Nat.le_refl _) _).trans (hb5.mono (by simp))⟩
    · have b1 : decide (n < 1) = false := by simp; omega
      have b2 : decide (7 < n) = true := by simp; omega
      go_enter Try.func19, Try.ntmps19
      go_wp2_with fail
      refine (voteEnough_calls _ _).mono ?_
      rintro e w1 ⟨rfl, rfl⟩
      rw [HE.out]
      go_wp2_with fail
      refine (l16awake_calls _).mono ?_
      rintro e w5 ⟨rfl, hb5⟩
      go_wp2
      go_ret
      exact ⟨rfl, ((Below.refl _ _).alloc (Nat.le_refl _) _).trans (hb5.mono (by simp))⟩

end Go.Proofs.Ytogcnfhmcpkdcaa
