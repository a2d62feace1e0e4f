/-
  Contracts of the small functions of layer 16 (vote) and of its reference: each returns what a plain function says, for every int. No condition.
-/
import Derived.Test.YtogcnfhmcpkdcaaRows
import Derived.Test.YtogcnfhmcpkdcaaShelf
import Derived.Test.YtogcnfhmcpkdcaaMem
import Derived.WalkKit
import Derived.WalkLawsBesides
import Derived.Lib.Hide
import Derived.Deep.QuietTactic
import Derived.BigQuiet
import Derived.Deep.DeepMust
import Derived.Deep.DeepFit
namespace Go.Proofs.Ytogcnfhmcpkdcaa
open Go.RowKit


/-- how many are enough -/
def enough (n : Int) : Int := if n < 1 ∨ 7 < n then 0 else n / 2 + 1

theorem voteEnough_calls (n : Int) (w : World) :
    Calls Try.prog 82 #[.int .i64 n] w fun e w' => e = .returned (.int .i64 (enough n)) ∧ w = w' := by
  rcases (show n ≤ 0 ∨ 8 ≤ n ∨ (1 ≤ n ∧ n ≤ 7) by omega) with h | h | ⟨h, h'⟩
  · have e1 : enough n = 0 := by unfold enough; rw [if_pos (by omega)]
    rw [e1]; clear e1
    go_enter Try.func82, Try.ntmps82
    go_wp2
    go_ret
    exact ⟨rfl, rfl⟩
  · have e1 : enough n = 0 := by unfold enough; rw [if_pos (by omega)]
    rw [e1]; clear e1
    have b1 : decide (n < 1) = false := by simp; omega
    go_enter Try.func82, Try.ntmps82
    go_wp2
    go_ret
    exact ⟨rfl, rfl⟩
  · have e1 : enough n = n / 2 + 1 := by unfold enough; rw [if_neg (by omega)]
    rw [e1]; clear e1
    have b1 : decide (n < 1) = false := by simp; omega
    have b2 : decide (7 < n) = false := by simp; omega
    go_enter Try.func82, Try.ntmps82
    go_wp2
    go_ret
    exact ⟨rfl, rfl⟩

def isWho (n : Int) : Bool := decide (0 ≤ n) && decide (n < 7)

theorem voteIs_calls (n : Int) (w : World) :
    Calls Try.prog 147 #[.int .i64 n] w fun e w' => e = .returned (.bool (isWho n)) ∧ w = w' := by
  by_cases h : 0 ≤ n
  · have e1 : isWho n = decide (n < 7) := by simp [isWho, h]
    rw [e1]; clear e1
    have b1 : decide (0 ≤ n) = true := by simpa using h
    go_enter Try.func147, Try.ntmps147
    go_wp2
    go_ret
    exact ⟨rfl, rfl⟩
  · have e1 : isWho n = false := by simp [isWho, h]
    rw [e1]; clear e1
    have b1 : decide (0 ≤ n) = false := by simpa using h
    go_enter Try.func147, Try.ntmps147
    go_wp2
    go_ret
    exact ⟨rfl, rfl⟩

/-- cmp.Or of two numbers -/
def orInt (x y : Int) : Int := if x = 0 then y else x

theorem cmpOr2_calls (x y : Int) (b : Nat) (w : World) (hx : w.cell? ⟨b, 0, none⟩ = some (.int .i64 x)) (hy : w.cell? ⟨b, 1, none⟩ = some (.int .i64 y)) :
    Calls Try.prog 145 #[.slice (some ⟨b, 0, none⟩) 2 2] w fun e w' => e = .returned (.int .i64 (orInt x y)) ∧ w = w' := by
  unfold orInt
  by_cases h : x = 0
  · subst h
    by_cases h2 : y = 0
    · subst h2
      go_enter Try.func145, Try.ntmps145
      go_wp2
      refine wp_loop_rounds 3 ?_
      rw [rounds_succ]
      go_wp2
      rw [rounds_succ]
      go_wp2
      rw [rounds_succ]
      go_wp2
      go_ret
      exact ⟨rfl, rfl⟩
    · have b2 : (y == 0) = false := by simpa using h2
      have b3 : (y != 0) = true := by simpa using h2
      go_enter Try.func145, Try.ntmps145
      go_wp2
      refine wp_loop_rounds 2 ?_
      rw [rounds_succ]
      go_wp2
      rw [rounds_succ]
      go_wp2
      go_ret
      exact ⟨rfl, rfl⟩
  · have b2 : (x == 0) = false := by simpa using h
    have b3 : (x != 0) = true := by simpa using h
    rw [if_neg h]
    go_enter Try.func145, Try.ntmps145
    go_wp2
    refine wp_loop_rounds 1 ?_
    rw [rounds_succ]
    go_wp2
    go_ret
    exact ⟨rfl, rfl⟩

/-- whether a log is as new as another one -/
def asNew (last term own ownTerm : Int) : Bool := decide (ownTerm < term) || (decide (term = ownTerm) && decide (own ≤ last))

theorem compareInt_or (t u l o : Int) : decide (0 ≤ orInt (Lib.compareInt t u) (Lib.compareInt l o)) = asNew l t o u := by
  unfold orInt Lib.compareInt asNew
  rcases Int.lt_trichotomy t u with h | h | h <;> rcases Int.lt_trichotomy l o with h' | h' | h' <;> simp_all <;> omega

theorem voteAsNew_calls (l t o u : Int) (w : World) :
    Calls Try.prog 83 #[.int .i64 l, .int .i64 t, .int .i64 o, .int .i64 u] w fun e w' => e = .returned (.bool (asNew l t o u)) ∧ Below w.heap.size w w' := by
  rw [← compareInt_or]
  go_enter Try.func83, Try.ntmps83
  go_wp2_with fail
  refine (Try.cmp_Compare_int _ _ _).mono ?_
  rintro e w' ⟨rfl, rfl⟩
  go_wp2_with fail
  refine (Try.cmp_Compare_int _ _ _).mono ?_
  rintro e w' ⟨rfl, rfl⟩
  go_wp2_with fail
  refine (cmpOr2_calls (Lib.compareInt t u) (Lib.compareInt l o) _ _ (World.cell?_alloc_new _ _ _ _) (World.cell?_alloc_new _ _ _ _)).mono ?_
  rintro e w1 ⟨rfl, rfl⟩
  go_wp2
  go_ret
  exact ⟨rfl, (Below.refl _ _).alloc (Nat.le_refl _) _⟩

theorem r16Enough_calls (n : Int) (w : World) :
    Calls Try.prog 87 #[.int .i64 n] w fun e w' => e = .returned (.int .i64 (enough n)) ∧ w = w' := by
  rcases (show n ≤ 0 ∨ 8 ≤ n ∨ (1 ≤ n ∧ n ≤ 7) by omega) with h | h | ⟨h, h'⟩
  · have e1 : enough n = 0 := by unfold enough; rw [if_pos (by omega)]
    rw [e1]; clear e1
    go_enter Try.func87, Try.ntmps87
    go_wp2
    go_ret
    exact ⟨rfl, rfl⟩
  · have e1 : enough n = 0 := by unfold enough; rw [if_pos (by omega)]
    rw [e1]; clear e1
    have b1 : decide (n < 1) = false := by simp; omega
    go_enter Try.func87, Try.ntmps87
    go_wp2
    go_ret
    exact ⟨rfl, rfl⟩
  · have e1 : enough n = n / 2 + 1 := by unfold enough; rw [if_neg (by omega)]
    rw [e1]; clear e1
    have b1 : decide (n < 1) = false := by simp; omega
    have b2 : decide (7 < n) = false := by simp; omega
    go_enter Try.func87, Try.ntmps87
    go_wp2
    go_loop [3] (fun k => ∃ i : Int, 0 ≤ i ∧ i ≤ n / 2 + 1 ∧ k = .int .i64 i) (fun k => (n / 2 + 1 - intOf k).toNat)
    case atStart => exact ⟨0, by omega, by omega, rfl⟩
    case round =>
      obtain ⟨i, hi, hi', rfl⟩ := hrel
      by_cases hlt : i + i ≤ n
      · go_wp2
        go_round
        case rel => exact ⟨i + 1, by omega, by omega, rfl⟩
        case measure => simp [intOf]; omega
      · have e2 : i = n / 2 + 1 := by omega
        have E2 := Lib.hid e2
        clear e2
        have b3 : decide (i + i ≤ n) = false := by simp; omega
        go_wp2
        go_ret
        exact ⟨ret_int E2.out, rfl⟩

theorem r16AsNew_calls (l t o u : Int) (w : World) :
    Calls Try.prog 88 #[.int .i64 l, .int .i64 t, .int .i64 o, .int .i64 u] w fun e w' => e = .returned (.bool (asNew l t o u)) ∧ w = w' := by
  by_cases h : t = u
  · subst h
    have e1 : asNew l t o t = decide (o ≤ l) := by simp [asNew]
    rw [e1]; clear e1
    go_enter Try.func88, Try.ntmps88
    go_wp2
    go_ret
    exact ⟨rfl, rfl⟩
  · have e1 : asNew l t o u = decide (u < t) := by simp [asNew, h]
    rw [e1]; clear e1
    have b1 : (t != u) = true := by simpa using h
    go_enter Try.func88, Try.ntmps88
    go_wp2
    go_ret
    exact ⟨rfl, rfl⟩

/-- the ballot of a term -/
def stepT (bt term : Int) : Int := if bt < term then term else bt
def stepF (bt bf term : Int) : Int := if bt < term then -1 else bf

theorem voteStep_calls (bt bf t : Int) (w : World) :
    Calls Try.prog 86 #[.agg #[.int .i64 bt, .int .i64 bf], .int .i64 t] w fun e w' => e = .returned (.agg #[.int .i64 (stepT bt t), .int .i64 (stepF bt bf t)]) ∧ Below w.heap.size w w' := by
  by_cases h : bt < t
  · have e1 : stepT bt t = t := by simp [stepT, h]
    have e2 : stepF bt bf t = -1 := by simp [stepF, h]
    rw [e1, e2]; clear e1 e2
    go_enter Try.func86, Try.ntmps86
    go_wp2
    refine bodyPost_ret (v := .agg #[.int .i64 t, .int .i64 (-1)]) (by simp [results, Try.results86, go_sem]) rfl ⟨rfl, ?_⟩
    exact ((Below.refl _ _).alloc (Nat.le_refl _) _).alloc (by simp) _
  · have e1 : stepT bt t = bt := by simp [stepT, h]
    have e2 : stepF bt bf t = bf := by simp [stepF, h]
    rw [e1, e2]; clear e1 e2
    go_enter Try.func86, Try.ntmps86
    go_wp2
    refine bodyPost_ret (v := .agg #[.int .i64 bt, .int .i64 bf]) (by simp [results, Try.results86, go_sem]) rfl ⟨rfl, ?_⟩
    exact ((Below.refl _ _).alloc (Nat.le_refl _) _).alloc (by simp) _

/-- who gets a vote -/
def granted (bt bf : Int) (from_ t : Int) (an : Bool) : Bool := isWho from_ && an && decide (bt = t) && (decide (bf = from_) || decide (bf = -1))

def grantT (bt bf f t : Int) (an : Bool) : Int := if granted bt bf f t an then t else bt
def grantF (bt bf f t : Int) (an : Bool) : Int := if granted bt bf f t an then f else bf

theorem voteGrant_calls (bt bf f t : Int) (an : Bool) (w : World) :
    Calls Try.prog 84 #[.agg #[.int .i64 bt, .int .i64 bf], .int .i64 f, .int .i64 t, .bool an] w fun e w' =>
      e = .returned (.tuple #[.agg #[.int .i64 (grantT bt bf f t an), .int .i64 (grantF bt bf f t an)], .bool (granted bt bf f t an)]) ∧ Below w.heap.size w w' := by
  have hb : ∀ o1 o2 o3, Below w.heap.size w (((w.alloc o1).alloc o2).alloc o3) := fun o1 o2 o3 => (((Below.refl _ _).alloc (Nat.le_refl _) _).alloc (by simp) _).alloc (by simp; omega) _
  have HB := Lib.hid hb
  clear hb
  unfold grantT grantF
  cases hg : granted bt bf f t an
  · simp only [Bool.false_eq_true, if_false]
    have hno : isWho f = false ∨ (isWho f = true ∧ an = false) ∨ (isWho f = true ∧ an = true ∧ bt ≠ t) ∨ (isWho f = true ∧ an = true ∧ bt = t ∧ bf ≠ f ∧ bf ≠ -1) := by
      simp [granted] at hg
      by_cases ht : bt = t
      · cases hw : isWho f <;> cases an <;> simp_all
      · cases hw : isWho f <;> cases an <;> simp_all
    clear hg
    rcases hno with h1 | ⟨h1, h2⟩ | ⟨h1, h2, h3⟩ | ⟨h1, h2, h3, h4, h5⟩
    · have H1 := Lib.hid h1
      clear h1
      go_enter Try.func84, Try.ntmps84
      go_wp2_with fail
      refine (voteIs_calls _ _).mono ?_
      rintro e w1 ⟨rfl, rfl⟩
      rw [H1.out]
      go_wp2
      refine bodyPost_ret (v := .tuple #[.agg #[.int .i64 bt, .int .i64 bf], .bool false]) (by simp [results, Try.results84, go_sem]) rfl ⟨rfl, HB.out _ _ _⟩
    · have H1 := Lib.hid h1
      clear h1
      subst h2
      go_enter Try.func84, Try.ntmps84
      go_wp2_with fail
      refine (voteIs_calls _ _).mono ?_
      rintro e w1 ⟨rfl, rfl⟩
      rw [H1.out]
      go_wp2
      refine bodyPost_ret (v := .tuple #[.agg #[.int .i64 bt, .int .i64 bf], .bool false]) (by simp [results, Try.results84, go_sem]) rfl ⟨rfl, HB.out _ _ _⟩
    · have H1 := Lib.hid h1
      clear h1
      subst h2
      have b1 : (bt == t) = false := by simpa using h3
      go_enter Try.func84, Try.ntmps84
      go_wp2_with fail
      refine (voteIs_calls _ _).mono ?_
      rintro e w1 ⟨rfl, rfl⟩
      rw [H1.out]
      go_wp2
      refine bodyPost_ret (v := .tuple #[.agg #[.int .i64 bt, .int .i64 bf], .bool false]) (by simp [results, Try.results84, go_sem]) rfl ⟨rfl, HB.out _ _ _⟩
    · have H1 := Lib.hid h1
      clear h1
      subst h2 h3
      have b1 : (bf == f) = false := by simpa using h4
      have b2 : (bf == -1) = false := by simpa using h5
      go_enter Try.func84, Try.ntmps84
      go_wp2_with fail
      refine (voteIs_calls _ _).mono ?_
      rintro e w1 ⟨rfl, rfl⟩
      rw [H1.out]
      go_wp2
      refine bodyPost_ret (v := .tuple #[.agg #[.int .i64 bt, .int .i64 bf], .bool false]) (by simp [results, Try.results84, go_sem]) rfl ⟨rfl, HB.out _ _ _⟩
  · simp [granted] at hg
    obtain ⟨⟨⟨h1, h2⟩, h3⟩, h4⟩ := hg
    have H1 := Lib.hid h1
    clear h1
    subst h2 h3
    simp only [if_true]
    by_cases h5 : bf = f
    · subst h5
      clear h4
      go_enter Try.func84, Try.ntmps84
      go_wp2_with fail
      refine (voteIs_calls _ _).mono ?_
      rintro e w1 ⟨rfl, rfl⟩
      rw [H1.out]
      go_wp2
      refine bodyPost_ret (v := .tuple #[.agg #[.int .i64 bt, .int .i64 bf], .bool true]) (by simp [results, Try.results84, go_sem]) rfl ⟨rfl, HB.out _ _ _⟩
    · have h6 : bf = -1 := by omega
      subst h6
      clear h4
      have b1 : ((-1 : Int) == f) = false := by simpa using h5
      clear h5
      go_enter Try.func84, Try.ntmps84
      go_wp2_with fail
      refine (voteIs_calls _ _).mono ?_
      rintro e w1 ⟨rfl, rfl⟩
      rw [H1.out]
      go_wp2
      refine bodyPost_ret (v := .tuple #[.agg #[.int .i64 bt, .int .i64 f], .bool true]) (by simp [results, Try.results84, go_sem]) rfl ⟨rfl, HB.out _ _ _⟩

theorem r16Grant_calls (bt bf f t : Int) (an : Bool) (w : World) :
    Calls Try.prog 85 #[.agg #[.int .i64 bt, .int .i64 bf], .int .i64 f, .int .i64 t, .bool an] w fun e w' =>
      e = .returned (.tuple #[.agg #[.int .i64 (grantT bt bf f t an), .int .i64 (grantF bt bf f t an)], .bool (granted bt bf f t an)]) ∧ Below w.heap.size w w' := by
  have hb : ∀ o1 o2, Below w.heap.size w ((w.alloc o1).alloc o2) := fun o1 o2 => ((Below.refl _ _).alloc (Nat.le_refl _) _).alloc (by simp) _
  have HB := Lib.hid hb
  clear hb
  unfold grantT grantF
  cases hg : granted bt bf f t an
  · simp only [Bool.false_eq_true, if_false]
    have hno : f < 0 ∨ (0 ≤ f ∧ 6 < f) ∨ (0 ≤ f ∧ f ≤ 6 ∧ an = false) ∨ (0 ≤ f ∧ f ≤ 6 ∧ an = true ∧ bt ≠ t) ∨ (0 ≤ f ∧ f ≤ 6 ∧ an = true ∧ bt = t ∧ bf ≠ f ∧ bf ≠ -1) := by
      simp [granted, isWho] at hg
      by_cases ht : bt = t
      · cases an <;> simp_all <;> omega
      · cases an <;> simp_all <;> omega
    clear hg
    rcases hno with h1 | ⟨h0, h1⟩ | ⟨h0, h1, h2⟩ | ⟨h0, h1, h2, h3⟩ | ⟨h0, h1, h2, h3, h4, h5⟩
    · go_enter Try.func85, Try.ntmps85
      go_wp2
      refine bodyPost_ret (v := .tuple #[.agg #[.int .i64 bt, .int .i64 bf], .bool false]) (by simp [results, Try.results85, go_sem]) rfl ⟨rfl, HB.out _ _⟩
    · have b1 : decide (f < 0) = false := by simp; omega
      go_enter Try.func85, Try.ntmps85
      go_wp2
      refine bodyPost_ret (v := .tuple #[.agg #[.int .i64 bt, .int .i64 bf], .bool false]) (by simp [results, Try.results85, go_sem]) rfl ⟨rfl, HB.out _ _⟩
    · subst h2
      have b1 : decide (f < 0) = false := by simp; omega
      have b2 : decide (6 < f) = false := by simp; omega
      go_enter Try.func85, Try.ntmps85
      go_wp2
      refine bodyPost_ret (v := .tuple #[.agg #[.int .i64 bt, .int .i64 bf], .bool false]) (by simp [results, Try.results85, go_sem]) rfl ⟨rfl, HB.out _ _⟩
    · subst h2
      have b1 : decide (f < 0) = false := by simp; omega
      have b2 : decide (6 < f) = false := by simp; omega
      have b3 : (bt != t) = true := by simpa using h3
      go_enter Try.func85, Try.ntmps85
      go_wp2
      refine bodyPost_ret (v := .tuple #[.agg #[.int .i64 bt, .int .i64 bf], .bool false]) (by simp [results, Try.results85, go_sem]) rfl ⟨rfl, HB.out _ _⟩
    · subst h2 h3
      have b1 : decide (f < 0) = false := by simp; omega
      have b2 : decide (6 < f) = false := by simp; omega
      have b3 : (bf != f) = true := by simpa using h4
      have b4 : (bf != -1) = true := by simpa using h5
      go_enter Try.func85, Try.ntmps85
      go_wp2
      refine bodyPost_ret (v := .tuple #[.agg #[.int .i64 bt, .int .i64 bf], .bool false]) (by simp [results, Try.results85, go_sem]) rfl ⟨rfl, HB.out _ _⟩
  · simp [granted, isWho] at hg
    obtain ⟨⟨⟨⟨h0, h1⟩, h2⟩, h3⟩, h4⟩ := hg
    subst h2 h3
    simp only [if_true]
    have b1 : decide (f < 0) = false := by simp; omega
    have b2 : decide (6 < f) = false := by simp; omega
    by_cases h5 : bf = f
    · subst h5
      clear h4
      by_cases h6 : bf = -1
      · omega
      have b4 : (bf != -1) = true := by simpa using h6
      go_enter Try.func85, Try.ntmps85
      go_wp2
      refine bodyPost_ret (v := .tuple #[.agg #[.int .i64 bt, .int .i64 bf], .bool true]) (by simp [results, Try.results85, go_sem]) rfl ⟨rfl, HB.out _ _⟩
    · have h6 : bf = -1 := by omega
      subst h6
      clear h4
      go_enter Try.func85, Try.ntmps85
      go_wp2
      refine bodyPost_ret (v := .tuple #[.agg #[.int .i64 bt, .int .i64 f], .bool true]) (by simp [results, Try.results85, go_sem]) rfl ⟨rfl, HB.out _ _⟩

def rightBallot (bt bf : Int) : Bool := decide (0 ≤ bt) && decide (bt ≤ 1099511627776) && (decide (bf = -1) || isWho bf)

theorem voteRight_calls (bt bf : Int) (w : World) :
    Calls Try.prog 91 #[.agg #[.int .i64 bt, .int .i64 bf]] w fun e w' => e = .returned (.bool (rightBallot bt bf)) ∧ Below w.heap.size w w' := by
  have hb : ∀ o1, Below w.heap.size w (w.alloc o1) := fun o1 => (Below.refl _ _).alloc (Nat.le_refl _) _
  have HB := Lib.hid hb
  clear hb
  have hno : bt < 0 ∨ (0 ≤ bt ∧ 1099511627776 < bt) ∨ (0 ≤ bt ∧ bt ≤ 1099511627776 ∧ bf = -1) ∨ (0 ≤ bt ∧ bt ≤ 1099511627776 ∧ bf ≠ -1) := by omega
  rcases hno with h1 | ⟨h0, h1⟩ | ⟨h0, h1, h2⟩ | ⟨h0, h1, h2⟩
  · have e1 : rightBallot bt bf = false := by simp [rightBallot]; intros; omega
    rw [e1]; clear e1
    have b1 : decide (0 ≤ bt) = false := by simp; omega
    go_enter Try.func91, Try.ntmps91
    go_wp2
    go_ret
    exact ⟨rfl, HB.out _⟩
  · have e1 : rightBallot bt bf = false := by simp [rightBallot]; intros; omega
    rw [e1]; clear e1
    have b1 : decide (0 ≤ bt) = true := by simp; omega
    have b2 : decide (bt ≤ 1099511627776) = false := by simp; omega
    go_enter Try.func91, Try.ntmps91
    go_wp2
    go_ret
    exact ⟨rfl, HB.out _⟩
  · subst h2
    have e1 : rightBallot bt (-1) = true := by simp [rightBallot]; omega
    rw [e1]; clear e1
    have b1 : decide (0 ≤ bt) = true := by simp; omega
    have b2 : decide (bt ≤ 1099511627776) = true := by simp; omega
    go_enter Try.func91, Try.ntmps91
    go_wp2
    go_ret
    exact ⟨rfl, HB.out _⟩
  · have e1 : rightBallot bt bf = isWho bf := by simp [rightBallot, h0, h1, h2]
    rw [e1]; clear e1
    have b1 : decide (0 ≤ bt) = true := by simp; omega
    have b2 : decide (bt ≤ 1099511627776) = true := by simp; omega
    have b3 : (bf == -1) = false := by simpa using h2
    go_enter Try.func91, Try.ntmps91
    go_wp2_with (go_at_call 147; refine (voteIs_calls _ _).mono ?_; rintro e w1 ⟨rfl, rfl⟩)
    go_ret
    exact ⟨rfl, HB.out _⟩

end Go.Proofs.Ytogcnfhmcpkdcaa
