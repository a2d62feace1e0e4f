/-
  The plain form of a letter: what is written is read as it was. No walk.
-/
import Derived.Test.YtogcnfhmcpkdcaaGreatLetLaw
import Derived.Test.YtogcnfhmcpkdcaaGreatReadM
import Derived.Test.YtogcnfhmcpkdcaaGreatPenZ
namespace Go.Proofs.YtogcnfhmcpkdcaaGreat
open Go.RowKit
set_option linter.unusedVariables false
set_option linter.unusedSimpArgs false
def putNums : List Nat → List UInt8
 | [] => []
 | n :: r => putNum n ++ putNums r
theorem putNums_snoc (l : List Nat) (n : Nat) : putNums (l ++ [n]) = putNums l ++ putNum n := by
 induction l with
 | nil => simp [putNums]
 | cons x r ih => simp [putNums, ih, List.append_assoc]
theorem putNums_len : ∀ (l : List Nat), (∀ n ∈ l, n ≤ 1099511627776) → (putNums l).length ≤ l.length * 9
 | [], _ => by simp [putNums]
 | n :: r, h => by
  have h1 := putNums_len r (fun m hm => h m (by simp [hm]));have h2 := putNum_le9 (show n < 18446744073709551616 by have := h n (by simp); omega);simp only [putNums, List.length_append, List.length_cons];omega
def yn (y : Bool) : Nat := if y then 1 else 0
def putL (x : PLet) : List UInt8 :=
 putNums [x.k.toNat, x.t.toNat] ++
 (if x.k = 1 then putNums [x.a.toNat, x.u.toNat]
 else if x.k = 2 then putNum (yn x.y)
 else if x.k = 3 then putNums [x.a.toNat, x.u.toNat, x.o.toNat, x.its.length] ++ putItems x.its
 else if x.k = 4 then putNum (yn x.y) ++ putNums [x.a.toNat, x.o.toNat]
 else putNums [x.a.toNat, x.u.toNat] ++ putText x.b)
theorem inM_iff (n : Int) : inM n = true ↔ 0 ≤ n ∧ n ≤ 1099511627776 := by simp [inM]
theorem rightL_nat {x : PLet} (h : rightL x = true) : ∃ K T A U O : Nat, x = ⟨K, T, A, U, O, x.y, x.its, x.b⟩ ∧ 1 ≤ K ∧ K ≤ 5 ∧ T ≤ 1099511627776 ∧ A ≤ 1099511627776 ∧ U ≤ 1099511627776 ∧ O ≤ 1099511627776 ∧ x.its.length ≤ 16 ∧ x.b.length ≤ 65536 ∧ (∀ it ∈ x.its, rightI it = true) ∧ x = usedL x := by
 simp only [rightL, Bool.and_eq_true, decide_eq_true_eq, inM_iff, sameL_iff, Bool.not_eq_true', List.any_eq_false, Bool.not_eq_true] at h;obtain ⟨⟨h1, h2, h3⟩, ⟨⟨h4, h5⟩, h6⟩, ⟨h7, h8⟩, h9, h10⟩ := h;refine ⟨x.k.toNat, x.t.toNat, x.a.toNat, x.u.toNat, x.o.toNat, ?_, by omega, by omega, by omega, by omega, by omega, by omega, h7, h8, fun it hit => by simpa using h9 it hit, h10⟩;rw [show ((x.k.toNat : Nat) : Int) = x.k by omega, show ((x.t.toNat : Nat) : Int) = x.t by omega, show ((x.a.toNat : Nat) : Int) = x.a by omega, show ((x.u.toNat : Nat) : Int) = x.u by omega, show ((x.o.toNat : Nat) : Int) = x.o by omega]
theorem putItems_len : ∀ (l : List PItem), (∀ it ∈ l, rightI it = true) → (putItems l).length ≤ l.length * 8300
 | [], _ => by simp [putItems]
 | it :: r, h => by
  have h1 := putItems_len r (fun j hj => h j (by simp [hj]));have h2 := (rightI_iff it).1 (h it (by simp));have h3 := putNum_le9 (show it.1.toNat < 18446744073709551616 by omega);have h4 := putNum_le9 (show it.2.length < 18446744073709551616 by omega);simp only [putItems, putText, List.length_append, List.length_cons];omega
def getLet (l : List UInt8) : Res PLet :=
 (getNum 5 l).bind fun k r1 => if k = 0 then .err 25 else (getNum 1099511627776 r1).bind fun t r2 =>
 if k = 1 then (getNum 1099511627776 r2).bind fun a r3 => (getNum 1099511627776 r3).bind fun u r4 => .ok ⟨1, t, a, u, 0, false, [], []⟩ r4
 else if k = 2 then (getNum 1 r2).bind fun y r3 => .ok ⟨2, t, 0, 0, 0, y == 1, [], []⟩ r3
 else if k = 3 then (getNum 1099511627776 r2).bind fun a r3 => (getNum 1099511627776 r3).bind fun u r4 => (getNum 1099511627776 r4).bind fun o r5 => (getNum 16 r5).bind fun n r6 => (getItems n r6).bind fun its r7 => .ok ⟨3, t, a, u, o, false, its, []⟩ r7
 else if k = 4 then (getNum 1 r2).bind fun y r3 => (getNum 1099511627776 r3).bind fun a r4 => (getNum 1099511627776 r4).bind fun o r5 => .ok ⟨4, t, a, 0, o, y == 1, [], []⟩ r5
 else (getNum 1099511627776 r2).bind fun a r3 => (getNum 1099511627776 r3).bind fun u r4 => (getText 65536 r4).bind fun b r5 => .ok ⟨5, t, a, u, 0, false, [], b⟩ r5
theorem sane_let (l : List UInt8) : (getLet l).sane := by
 unfold getLet;refine Res.sane_bind (sane_num _ _) fun k r1 => ?_
 split
 ·intro x h; cases h; decide
 refine Res.sane_bind (sane_num _ _) fun t r2 => ?_
 split
 ·exact Res.sane_bind (sane_num _ _) fun _ _ => Res.sane_bind (sane_num _ _) fun _ _ => sane_ok _ _
 split
 ·exact Res.sane_bind (sane_num _ _) fun _ _ => sane_ok _ _
 split
 ·exact Res.sane_bind (sane_num _ _) fun _ _ => Res.sane_bind (sane_num _ _) fun _ _ => Res.sane_bind (sane_num _ _) fun _ _ => Res.sane_bind (sane_num _ _) fun _ _ => Res.sane_bind (sane_items _ _) fun _ _ => sane_ok _ _
 split
 ·exact Res.sane_bind (sane_num _ _) fun _ _ => Res.sane_bind (sane_num _ _) fun _ _ => Res.sane_bind (sane_num _ _) fun _ _ => sane_ok _ _
 ·exact Res.sane_bind (sane_num _ _) fun _ _ => Res.sane_bind (sane_num _ _) fun _ _ => Res.sane_bind (sane_text _ _) fun _ _ => sane_ok _ _
theorem getLet_put {x : PLet} (h : rightL x = true) (r : List UInt8) : getLet (putL x ++ r) = .ok x r := by
 obtain ⟨K, T, A, U, O, hx, hK1, hK5, hT, hA, hU, hO, hi, hb, hit, hus⟩ := rightL_nat h;obtain ⟨k, t, a, u, o, y, its, b⟩ := x;injection hx with e1 e2 e3 e4 e5
 subst e1 e2 e3 e4 e5
 change its.length ≤ 16 at hi
 change b.length ≤ 65536 at hb
 change ∀ it ∈ its, rightI it = true at hit
 have hy : getNum 1 (putNum (yn y) ++ r) = .ok (yn y) r := getNum_put _ _ _ (by cases y <;> simp [yn]) (by cases y <;> simp [yn]);have hy2 : ∀ s, getNum 1 (putNum (yn y) ++ s) = .ok (yn y) s := fun s => getNum_put _ _ _ (by cases y <;> simp [yn]) (by cases y <;> simp [yn])
 have hyy : (yn y == 1) = y := by cases y <;> rfl
 have hK : K = 1 ∨ K = 2 ∨ K = 3 ∨ K = 4 ∨ K = 5 := by omega
 rcases hK with rfl | rfl | rfl | rfl | rfl
 all_goals
  simp [usedL] at hus;simp only [getLet, putL, putNums, List.append_assoc, List.nil_append, List.append_nil]
  simp
  rw [getNum_put _ _ _ (by omega) (by omega), Res.bind_ok]
  simp
  rw [getNum_put _ _ _ (by omega) (by omega), Res.bind_ok]
  try rw [hy2, Res.bind_ok, hyy]
  try rw [getNum_put _ _ _ (by omega) (by omega), Res.bind_ok]
  try rw [getNum_put _ _ _ (by omega) (by omega), Res.bind_ok]
  try rw [getNum_put _ _ _ (by omega) (by omega), Res.bind_ok]
  try rw [getNum_put _ _ _ (by omega) (by omega), Res.bind_ok]
  try rw [getItems_put _ hit, Res.bind_ok]
  try rw [getText_put _ _ _ (by omega) hb, Res.bind_ok]
  simp [hus]
end Go.Proofs.YtogcnfhmcpkdcaaGreat
