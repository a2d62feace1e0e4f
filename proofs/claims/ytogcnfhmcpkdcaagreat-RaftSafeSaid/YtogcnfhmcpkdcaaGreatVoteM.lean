/-
  Plain law: the index at its place in the sorted list is the greatest that enough have. No program in sight.
  Contracts of the small functions of layer 16 (vote) and of its reference: each returns what a plain function says, for every int. No condition.
  vote.Agreed: of 1 to 7 indexes the one that stands at its place when they are sorted; of others none. No condition.
-/
import Derived.Test.YtogcnfhmcpkdcaaGreatMemB
import Derived.Test.YtogcnfhmcpkdcaaGreatRows
import Derived.Test.YtogcnfhmcpkdcaaGreatShelf
import Derived.WalkKit
import Derived.WalkLawsBesides
import Derived.Lib.Hide
import Derived.Deep.QuietTactic
import Derived.BigQuiet
import Derived.Deep.DeepMust
import Derived.Deep.DeepFit
namespace Go.Proofs.YtogcnfhmcpkdcaaGreat
def sortedI (zs : List Int) : List Int := zs.mergeSort fun x y => decide (x ≤ y)
def agreedOk (zs : List Int) : Bool := decide (1 ≤ zs.length) && decide (zs.length ≤ 7)
def agreed (zs : List Int) : Int := if agreedOk zs = true then (sortedI zs).getD (zs.length - (zs.length / 2 + 1)) 0 else 0
def cntGe (zs : List Int) (x : Int) : Nat := (zs.filter fun y => decide (x ≤ y)).length
def bestStep (zs : List Int) (acc : Int × Bool) (x : Int) : Int × Bool :=
 if zs.length / 2 + 1 ≤ cntGe zs x ∧ (acc.2 = false ∨ acc.1 < x) then (x, true) else acc
def bestOf (zs : List Int) (l : List Int) : Int × Bool := l.foldl (bestStep zs) (0, false)
theorem bestOf_snoc (zs l : List Int) (x : Int) : bestOf zs (l ++ [x]) = bestStep zs (bestOf zs l) x := by simp [bestOf]
theorem sortedI_length (zs : List Int) : (sortedI zs).length = zs.length := by simp [sortedI]
theorem sortedI_perm (zs : List Int) : (sortedI zs).Perm zs := List.mergeSort_perm _ _
theorem sortedI_sorted (zs : List Int) : (sortedI zs).Pairwise (· ≤ ·) := by
 have h := List.pairwise_mergeSort (le := fun x y : Int => decide (x ≤ y)) (by intro a b c h1 h2; simp at *; omega) (by intro a b; simp; omega) zs;exact h.imp (by intro a b h; simpa using h)
theorem cntGe_perm {l m : List Int} (h : l.Perm m) (x : Int) : cntGe l x = cntGe m x := (h.filter _).length_eq
theorem cntGe_append (l m : List Int) (x : Int) : cntGe (l ++ m) x = cntGe l x + cntGe m x := by simp [cntGe]
theorem cntGe_le (l : List Int) (x : Int) : cntGe l x ≤ l.length := List.length_filter_le _ _
theorem cntGe_all (l : List Int) (x : Int) (h : ∀ y ∈ l, x ≤ y) : cntGe l x = l.length := by
 unfold cntGe; rw [List.filter_eq_self.2 (by intro y hy; simpa using h y hy)]
theorem cntGe_none (l : List Int) (x : Int) (h : ∀ y ∈ l, y < x) : cntGe l x = 0 := by
 unfold cntGe;rw [List.filter_eq_nil_iff.2 (by intro y hy; have := h y hy; simp; omega)]; rfl
theorem bestOf_inv (zs : List Int) : ∀ l : List Int, ((bestOf zs l).2 = true → (bestOf zs l).1 ∈ l ∧ zs.length / 2 + 1 ≤ cntGe zs (bestOf zs l).1) ∧
  (∀ x ∈ l, zs.length / 2 + 1 ≤ cntGe zs x → (bestOf zs l).2 = true ∧ x ≤ (bestOf zs l).1) ∧ ((bestOf zs l).2 = false → (bestOf zs l).1 = 0) := by
 intro l
 induction l using snocInd with
 | h0 => simp [bestOf]
 | h1 l x ih =>
  obtain ⟨h1, h2, h3⟩ := ih;rw [bestOf_snoc];unfold bestStep;split
  ·rename_i hc
   refine ⟨fun _ => ⟨by simp, hc.1⟩, ?_, fun h => by simp at h⟩;intro y hy hcy;rcases List.mem_append.1 hy with hy | hy
   ·obtain ⟨hf, hle⟩ := h2 y hy hcy;rcases hc.2 with h | h
    ·rw [hf] at h; cases h
    ·exact ⟨rfl, by show y ≤ x; omega⟩
   ·have : y = x := by simpa using hy
    subst this; exact ⟨rfl, Int.le_refl _⟩
  ·rename_i hc
   refine ⟨fun h => ⟨List.mem_append_left _ (h1 h).1, (h1 h).2⟩, ?_, h3⟩;intro y hy hcy;rcases List.mem_append.1 hy with hy | hy
   ·exact h2 y hy hcy
   ·have : y = x := by simpa using hy
    subst this;cases hb : (bestOf zs l).2
    ·exact absurd ⟨hcy, .inl hb⟩ hc
    ·refine ⟨rfl, ?_⟩;rcases (show (bestOf zs l).1 < y ∨ y ≤ (bestOf zs l).1 by omega) with h | h
     ·exact absurd ⟨hcy, .inr h⟩ hc
     ·exact h
theorem bestOf_agreed (zs : List Int) (h1 : 1 ≤ zs.length) (h7 : zs.length ≤ 7) : bestOf zs zs = (agreed zs, true) := by
 have hok : agreedOk zs = true := by simp [agreedOk, h1, h7]
 have hag : agreed zs = (sortedI zs).getD (zs.length - (zs.length / 2 + 1)) 0 := by simp [agreed, hok]
 obtain ⟨k, hk⟩ : ∃ k, k = zs.length - (zs.length / 2 + 1) := ⟨_, rfl⟩
 have hkl : k < (sortedI zs).length := by rw [sortedI_length]; omega
 rw [← hk] at hag;have hr : agreed zs = (sortedI zs)[k] := by rw [hag]; simp [List.getD, List.getElem?_eq_getElem hkl]
 have hsort := sortedI_sorted zs;have hperm := sortedI_perm zs;have hlen := sortedI_length zs;generalize sortedI zs = s at *;have hge : ∀ i j (hi : i < s.length) (hj : j < s.length), i ≤ j → s[i] ≤ s[j] := by
  intro i j hi hj hij;rcases Nat.lt_or_eq_of_le hij with h | h
  ·exact (List.pairwise_iff_getElem.1 hsort) i j hi hj h
  ·subst h; exact Int.le_refl _
 have hc1 : zs.length / 2 + 1 ≤ cntGe zs (agreed zs) := by
  rw [← cntGe_perm hperm, ← List.take_append_drop k s, cntGe_append, cntGe_all (s.drop k)]
  ·simp; omega
  ·intro y hy;obtain ⟨i, hi, rfl⟩ := List.getElem_of_mem hy;rw [hr, List.getElem_drop];exact hge _ _ _ _ (by omega)
 have hc2 : ∀ x, agreed zs < x → cntGe zs x < zs.length / 2 + 1 := by
  intro x hx;rw [← cntGe_perm hperm, ← List.take_append_drop (k + 1) s, cntGe_append, cntGe_none (s.take (k + 1))]
  ·have := cntGe_le (s.drop (k + 1)) x;simp at this; omega
  ·intro y hy;obtain ⟨i, hi, rfl⟩ := List.getElem_of_mem hy;rw [List.getElem_take];have hi' : i < k + 1 := by simp at hi; omega
   have := hge i k (by omega) hkl (by omega);rw [hr] at hx; omega
 have hmem : agreed zs ∈ zs := by rw [hr]; exact hperm.subset (List.getElem_mem hkl)
 obtain ⟨i1, i2, _⟩ := bestOf_inv zs zs;obtain ⟨hf, hle⟩ := i2 _ hmem hc1;have hb := (i1 hf).2;have : (bestOf zs zs).1 = agreed zs := by
  rcases (show agreed zs < (bestOf zs zs).1 ∨ (bestOf zs zs).1 ≤ agreed zs by omega) with h | h
  ·have := hc2 _ h; omega
  ·omega
 exact Prod.ext this hf
end Go.Proofs.YtogcnfhmcpkdcaaGreat
namespace Go.Proofs.YtogcnfhmcpkdcaaGreat
open Go.RowKit
def enough (n : Int) : Int := if n < 1 ∨ 7 < n then 0 else n / 2 + 1
theorem voteEnough_calls (n : Int) (w : World) :
  Calls Tryz.prog 33 #[.int .i64 n] w fun e w' => e = .returned (.int .i64 (enough n)) ∧ w = w' := by
 rcases (show n ≤ 0 ∨ 8 ≤ n ∨ (1 ≤ n ∧ n ≤ 7) by omega) with h | h | ⟨h, h'⟩
 ·have e1 : enough n = 0 := by unfold enough; rw [if_pos (by omega)]
  rw [e1]; clear e1;go_enter Tryz.func33, Tryz.ntmps33
  go_wp2;go_ret;exact ⟨rfl, rfl⟩
 ·have e1 : enough n = 0 := by unfold enough; rw [if_pos (by omega)]
  rw [e1]; clear e1;have b1 : decide (n < 1) = false := by simp; omega
  go_enter Tryz.func33, Tryz.ntmps33
  go_wp2;go_ret;exact ⟨rfl, rfl⟩
 ·have e1 : enough n = n / 2 + 1 := by unfold enough; rw [if_neg (by omega)]
  rw [e1]; clear e1;have b1 : decide (n < 1) = false := by simp; omega
  have b2 : decide (7 < n) = false := by simp; omega
  go_enter Tryz.func33, Tryz.ntmps33
  go_wp2;go_ret;exact ⟨rfl, rfl⟩
def isWho (n : Int) : Bool := decide (0 ≤ n) && decide (n < 7)
theorem voteIs_calls (n : Int) (w : World) :
  Calls Tryz.prog 108 #[.int .i64 n] w fun e w' => e = .returned (.bool (isWho n)) ∧ w = w' := by
 by_cases h : 0 ≤ n
 ·have e1 : isWho n = decide (n < 7) := by simp [isWho, h]
  rw [e1]; clear e1;have b1 : decide (0 ≤ n) = true := by simpa using h
  go_enter Tryz.func108, Tryz.ntmps108
  go_wp2;go_ret;exact ⟨rfl, rfl⟩
 ·have e1 : isWho n = false := by simp [isWho, h]
  rw [e1]; clear e1;have b1 : decide (0 ≤ n) = false := by simpa using h
  go_enter Tryz.func108, Tryz.ntmps108
  go_wp2;go_ret;exact ⟨rfl, rfl⟩
def orInt (x y : Int) : Int := if x = 0 then y else x
theorem cmpOr2_calls (x y : Int) (b : Nat) (w : World) (hx : w.cell? ⟨b, 0, none⟩ = some (.int .i64 x)) (hy : w.cell? ⟨b, 1, none⟩ = some (.int .i64 y)) :
  Calls Tryz.prog 109 #[.slice (some ⟨b, 0, none⟩) 2 2] w fun e w' => e = .returned (.int .i64 (orInt x y)) ∧ w = w' := by
 unfold orInt;by_cases h : x = 0
 ·subst h;by_cases h2 : y = 0
  ·subst h2;go_enter Tryz.func109, Tryz.ntmps109
   go_wp2;refine wp_loop_rounds 3 ?_;rw [rounds_succ];go_wp2;rw [rounds_succ];go_wp2;rw [rounds_succ];go_wp2;go_ret;exact ⟨rfl, rfl⟩
  ·have b2 : (y == 0) = false := by simpa using h2
   have b3 : (y != 0) = true := by simpa using h2
   go_enter Tryz.func109, Tryz.ntmps109
   go_wp2;refine wp_loop_rounds 2 ?_;rw [rounds_succ];go_wp2;rw [rounds_succ];go_wp2;go_ret;exact ⟨rfl, rfl⟩
 ·have b2 : (x == 0) = false := by simpa using h
  have b3 : (x != 0) = true := by simpa using h
  rw [if_neg h];go_enter Tryz.func109, Tryz.ntmps109
  go_wp2;refine wp_loop_rounds 1 ?_;rw [rounds_succ];go_wp2;go_ret;exact ⟨rfl, rfl⟩
def asNew (last term own ownTerm : Int) : Bool := decide (ownTerm < term) || (decide (term = ownTerm) && decide (own ≤ last))
theorem compareInt_or (t u l o : Int) : decide (0 ≤ orInt (Lib.compareInt t u) (Lib.compareInt l o)) = asNew l t o u := by
 unfold orInt Lib.compareInt asNew;rcases Int.lt_trichotomy t u with h | h | h <;> rcases Int.lt_trichotomy l o with h' | h' | h' <;> simp_all <;> omega
theorem voteAsNew_calls (l t o u : Int) (w : World) :
  Calls Tryz.prog 80 #[.int .i64 l, .int .i64 t, .int .i64 o, .int .i64 u] w fun e w' => e = .returned (.bool (asNew l t o u)) ∧ Below w.heap.size w w' := by
 rw [← compareInt_or];go_enter Tryz.func80, Tryz.ntmps80
 go_wp2_with fail;refine (Tryz.cmp_Compare_int _ _ _).mono ?_;rintro e w' ⟨rfl, rfl⟩;go_wp2_with fail;refine (Tryz.cmp_Compare_int _ _ _).mono ?_;rintro e w' ⟨rfl, rfl⟩;go_wp2_with fail;refine (cmpOr2_calls (Lib.compareInt t u) (Lib.compareInt l o) _ _ (World.cell?_alloc_new _ _ _ _) (World.cell?_alloc_new _ _ _ _)).mono ?_;rintro e w1 ⟨rfl, rfl⟩;go_wp2;go_ret;exact ⟨rfl, (Below.refl _ _).alloc (Nat.le_refl _) _⟩
def stepT (bt term : Int) : Int := if bt < term then term else bt
def stepF (bt bf term : Int) : Int := if bt < term then -1 else bf
theorem voteStep_calls (bt bf t : Int) (w : World) :
  Calls Tryz.prog 43 #[.agg #[.int .i64 bt, .int .i64 bf], .int .i64 t] w fun e w' => e = .returned (.agg #[.int .i64 (stepT bt t), .int .i64 (stepF bt bf t)]) ∧ Below w.heap.size w w' := by
 by_cases h : bt < t
 ·have e1 : stepT bt t = t := by simp [stepT, h]
  have e2 : stepF bt bf t = -1 := by simp [stepF, h]
  rw [e1, e2]; clear e1 e2;go_enter Tryz.func43, Tryz.ntmps43
  go_wp2;refine bodyPost_ret (v := .agg #[.int .i64 t, .int .i64 (-1)]) (by simp [results, Tryz.results43, go_sem]) rfl ⟨rfl, ?_⟩;exact ((Below.refl _ _).alloc (Nat.le_refl _) _).alloc (by simp) _
 ·have e1 : stepT bt t = bt := by simp [stepT, h]
  have e2 : stepF bt bf t = bf := by simp [stepF, h]
  rw [e1, e2]; clear e1 e2;go_enter Tryz.func43, Tryz.ntmps43
  go_wp2;refine bodyPost_ret (v := .agg #[.int .i64 bt, .int .i64 bf]) (by simp [results, Tryz.results43, go_sem]) rfl ⟨rfl, ?_⟩;exact ((Below.refl _ _).alloc (Nat.le_refl _) _).alloc (by simp) _
def granted (bt bf : Int) (from_ t : Int) (an : Bool) : Bool := isWho from_ && an && decide (bt = t) && (decide (bf = from_) || decide (bf = -1))
def grantT (bt bf f t : Int) (an : Bool) : Int := if granted bt bf f t an then t else bt
def grantF (bt bf f t : Int) (an : Bool) : Int := if granted bt bf f t an then f else bf
theorem voteGrant_calls (bt bf f t : Int) (an : Bool) (w : World) :
  Calls Tryz.prog 79 #[.agg #[.int .i64 bt, .int .i64 bf], .int .i64 f, .int .i64 t, .bool an] w fun e w' =>
   e = .returned (.tuple #[.agg #[.int .i64 (grantT bt bf f t an), .int .i64 (grantF bt bf f t an)], .bool (granted bt bf f t an)]) ∧ Below w.heap.size w w' := by
 have hb : ∀ o1 o2 o3, Below w.heap.size w (((w.alloc o1).alloc o2).alloc o3) := fun o1 o2 o3 => (((Below.refl _ _).alloc (Nat.le_refl _) _).alloc (by simp) _).alloc (by simp; omega) _
 have HB := Hh hb;clear hb;unfold grantT grantF;cases hg : granted bt bf f t an
 ·simp only [Bool.false_eq_true, if_false];have hno : isWho f = false ∨ (isWho f = true ∧ an = false) ∨ (isWho f = true ∧ an = true ∧ bt ≠ t) ∨ (isWho f = true ∧ an = true ∧ bt = t ∧ bf ≠ f ∧ bf ≠ -1) := by
   simp [granted] at hg;by_cases ht : bt = t
   ·cases hw : isWho f <;> cases an <;> simp_all
   ·cases hw : isWho f <;> cases an <;> simp_all
  clear hg;rcases hno with h1 | ⟨h1, h2⟩ | ⟨h1, h2, h3⟩ | ⟨h1, h2, h3, h4, h5⟩
  ·have H1 := Hh h1;clear h1;go_enter Tryz.func79, Tryz.ntmps79
   go_wp2_with fail;refine (voteIs_calls _ _).mono ?_;rintro e w1 ⟨rfl, rfl⟩;rw [H1.out];go_wp2;refine bodyPost_ret (v := .tuple #[.agg #[.int .i64 bt, .int .i64 bf], .bool false]) (by simp [results, Tryz.results79, go_sem]) rfl ⟨rfl, HB.out _ _ _⟩
  ·have H1 := Hh h1;clear h1;subst h2;go_enter Tryz.func79, Tryz.ntmps79
   go_wp2_with fail;refine (voteIs_calls _ _).mono ?_;rintro e w1 ⟨rfl, rfl⟩;rw [H1.out];go_wp2;refine bodyPost_ret (v := .tuple #[.agg #[.int .i64 bt, .int .i64 bf], .bool false]) (by simp [results, Tryz.results79, go_sem]) rfl ⟨rfl, HB.out _ _ _⟩
  ·have H1 := Hh h1;clear h1;subst h2;have b1 : (bt == t) = false := by simpa using h3
   go_enter Tryz.func79, Tryz.ntmps79
   go_wp2_with fail;refine (voteIs_calls _ _).mono ?_;rintro e w1 ⟨rfl, rfl⟩;rw [H1.out];go_wp2;refine bodyPost_ret (v := .tuple #[.agg #[.int .i64 bt, .int .i64 bf], .bool false]) (by simp [results, Tryz.results79, go_sem]) rfl ⟨rfl, HB.out _ _ _⟩
  ·have H1 := Hh h1;clear h1;subst h2 h3;have b1 : (bf == f) = false := by simpa using h4
   have b2 : (bf == -1) = false := by simpa using h5
   go_enter Tryz.func79, Tryz.ntmps79
   go_wp2_with fail;refine (voteIs_calls _ _).mono ?_;rintro e w1 ⟨rfl, rfl⟩;rw [H1.out];go_wp2;refine bodyPost_ret (v := .tuple #[.agg #[.int .i64 bt, .int .i64 bf], .bool false]) (by simp [results, Tryz.results79, go_sem]) rfl ⟨rfl, HB.out _ _ _⟩
 ·simp [granted] at hg;obtain ⟨⟨⟨h1, h2⟩, h3⟩, h4⟩ := hg;have H1 := Hh h1;clear h1;subst h2 h3;simp only [if_true];by_cases h5 : bf = f
  ·subst h5;clear h4;go_enter Tryz.func79, Tryz.ntmps79
   go_wp2_with fail;refine (voteIs_calls _ _).mono ?_;rintro e w1 ⟨rfl, rfl⟩;rw [H1.out];go_wp2;refine bodyPost_ret (v := .tuple #[.agg #[.int .i64 bt, .int .i64 bf], .bool true]) (by simp [results, Tryz.results79, go_sem]) rfl ⟨rfl, HB.out _ _ _⟩
  ·have h6 : bf = -1 := by omega
   subst h6;clear h4;have b1 : ((-1 : Int) == f) = false := by simpa using h5
   clear h5;go_enter Tryz.func79, Tryz.ntmps79
   go_wp2_with fail;refine (voteIs_calls _ _).mono ?_;rintro e w1 ⟨rfl, rfl⟩;rw [H1.out];go_wp2;refine bodyPost_ret (v := .tuple #[.agg #[.int .i64 bt, .int .i64 f], .bool true]) (by simp [results, Tryz.results79, go_sem]) rfl ⟨rfl, HB.out _ _ _⟩
end Go.Proofs.YtogcnfhmcpkdcaaGreat
namespace Go.Proofs.YtogcnfhmcpkdcaaGreat
open Go.RowKit Go.Sort
set_option maxHeartbeats 400000 in
theorem voteAgreed_calls (zs : List Int) (a : Option Addr) (c : Nat) (w : World) (h : SlAt w w.heap.size 1 a zs.length c (zs.map (Value.int .i64))) :
  Calls Tryz.prog 88 #[.slice a zs.length c] w fun e w' => e = .returned (.tuple #[.int .i64 (agreed zs), .bool (agreedOk zs)]) ∧ Below w.heap.size w w' := by
 have hm := h.hmax;have hl := h.hle;unfold maxLen at hm;by_cases hok : 1 ≤ zs.length ∧ zs.length ≤ 7
 ·obtain ⟨h1, h7⟩ := hok;have e0 : agreedOk zs = true := by simp [agreedOk, h1, h7]
  have e1 : agreed zs = (sortedI zs).getD (zs.length - (zs.length / 2 + 1)) 0 := by simp [agreed, e0]
  rw [e0, e1]; clear e0 e1;obtain ⟨b, o, rfl, hb, hc⟩ := h.hat (by simp; omega);have hcc : ∀ j, j < zs.length → w.cell? ⟨b, o + j, none⟩ = some (.int .i64 (zs.getD j 0)) := fun j hj => by
   have := hc j (by simpa using hj);rw [this]; simp [List.getElem?_map, List.getD, List.getElem?_eq_getElem hj]
  have HCC := Hh hcc;clear hcc hc h;have he : enough (zs.length : Int) = (zs.length : Int) / 2 + 1 := by unfold enough; rw [if_neg (by omega)]
  have HE := Hh he;clear he;go_enter Tryz.func88, Tryz.ntmps88
  go_wp2_with fail;refine (voteEnough_calls _ _).mono ?_;rintro e w1 ⟨rfl, rfl⟩;rw [HE.out];have b1 : (((zs.length : Int) / 2 + 1) == 0) = false := by simp; omega
  go_wp2_with fail;refine (Tryz.slices_Clone_int b o zs.length c zs _ (Nat.le_refl _) (by omega) HCC.out).mono ?_;rintro e w1 ⟨v', rfl, hown, hnn, hbel⟩;rw [List.take_of_length_le (Nat.le_refl _)] at hown;rcases hown.2 with ⟨hx, _⟩ | ⟨g, cap, cur, rfl, hbg, hg, hn, hmx, hs, ht⟩
  ·exact absurd hx hnn
  have hH : Holds (Value.int .i64) w1 g 0 zs.toArray := holds_of_blockI hg (by simpa using ht);have hg1 : g < w1.heap.size := (Array.getElem?_eq_some_iff.1 hg).1;go_wp2_with fail;refine (Tryz.slices_Sort_int g 0 cap zs w1 hH hg1 (by omega)).mono ?_;rintro e w2 ⟨rfl, nd, os, hw2⟩;have hgr : w1.grownBy w2 (some g) := by rw [hw2]; exact grownBy_sortedI _
  have hown2 : w2.ownsRow w.heap.size 3 1 (.slice (some ⟨g, 0, none⟩) zs.length cap) zs.length ((sortedI zs).map (Value.int .i64)) := by
   rw [hw2]; exact ownsRow_sortedI (sortedI_length zs) hbg hg hn hmx hs
  clear hw2 hH hg hs ht hown hnn;have hcell := hown2.cellAt (zs.length - (zs.length / 2 + 1)) (by omega);have hget : ((sortedI zs).map (Value.int .i64))[zs.length - (zs.length / 2 + 1)]? = some (.int .i64 ((sortedI zs).getD (zs.length - (zs.length / 2 + 1)) 0)) := by
   have hlt : zs.length - (zs.length / 2 + 1) < (sortedI zs).length := by rw [sortedI_length]; omega
   simp [List.getElem?_map, List.getD, List.getElem?_eq_getElem hlt]
  rw [hget] at hcell;clear hget hown2;have hbel2 : Below w.heap.size w w2 := hbel.trans (below_grown hgr hbg hbel.size);clear hbel hgr;have HB := Hh hbel2;clear hbel2;go_wp2;go_ret2;exact ⟨rfl, HB.out⟩
 ·have e0 : agreedOk zs = false := by simp [agreedOk]; omega
  have e1 : agreed zs = 0 := by simp [agreed, e0]
  rw [e0, e1]; clear e0 e1 h;have he : enough (zs.length : Int) = 0 := by unfold enough; rw [if_pos (by omega)]
  have HE := Hh he;clear he;go_enter Tryz.func88, Tryz.ntmps88
  go_wp2_with fail;refine (voteEnough_calls _ _).mono ?_;rintro e w1 ⟨rfl, rfl⟩;rw [HE.out];go_wp2;go_ret2;exact ⟨rfl, Below.refl _ _⟩
end Go.Proofs.YtogcnfhmcpkdcaaGreat
