/-
  The plain law of lines: items, terms, what is added, joined, dropped, taken. No program in sight.
-/
import Derived.Test.YtogcnfhmcpkdcaaGreatNumM
namespace Go.Proofs.YtogcnfhmcpkdcaaGreat
set_option linter.unusedVariables false
set_option linter.unusedSimpArgs false
abbrev PItem := Int × List UInt8
def rightI (it : PItem) : Bool := decide (0 ≤ it.1) && (decide (it.1 ≤ 1099511627776) && decide (it.2.length ≤ 8192))
theorem rightI_iff (it : PItem) : rightI it = true ↔ 0 ≤ it.1 ∧ it.1 ≤ 1099511627776 ∧ it.2.length ≤ 8192 := by simp [rightI]
structure PLine where
 base : Int
 term : Int
 l : List PItem
def PLine.last (x : PLine) : Int := x.base + (x.l.length : Int)
def PLine.tm (x : PLine) (i : Int) : Int := if i = x.base then x.term else if i < x.base ∨ x.last < i then -1 else (x.l.getD (i - x.base - 1).toNat (0, [])).1
structure PLine.Good (x : PLine) : Prop where
 b0 : 0 ≤ x.base
 b1 : x.base ≤ 1099511627776
 t0 : 0 ≤ x.term
 t1 : x.term ≤ 1099511627776
 n1 : x.l.length ≤ 4096
 n2 : x.base + (x.l.length : Int) ≤ 1099511627776
 its : ∀ it ∈ x.l, rightI it = true
def fitsB (x : PLine) (n : Int) : Bool := decide (n ≤ 4096) && decide (n ≤ 1099511627776 - x.base)
theorem getD_in {α : Type} {l : List α} {i : Nat} {d : α} (h : i < l.length) : l.getD i d = l[i] := by simp [List.getD, List.getElem?_eq_getElem h]
theorem PLine.Good.tm_ge {x : PLine} (h : x.Good) (i : Int) : 0 ≤ x.tm i ↔ x.base ≤ i ∧ i ≤ x.last := by
 unfold PLine.tm;have hl : x.last = x.base + (x.l.length : Int) := rfl;by_cases h1 : i = x.base
 ·rw [if_pos h1]; have := h.t0; constructor
  ·intro _; omega
  ·intro _; exact this
 ·rw [if_neg h1];by_cases h2 : i < x.base ∨ x.last < i
  ·rw [if_pos h2]; constructor
   ·intro h3; omega
   ·intro h3; omega
  ·rw [if_neg h2];have hlt : (i - x.base - 1).toNat < x.l.length := by omega
   have hm := h.its _ (List.getElem_mem hlt);have := ((rightI_iff _).1 hm).1;constructor
   ·intro _; omega
   ·intro _; rw [getD_in hlt]; exact this
theorem PLine.Good.tm_le {x : PLine} (h : x.Good) (i : Int) : x.tm i ≤ 1099511627776 := by
 unfold PLine.tm;by_cases h1 : i = x.base
 ·rw [if_pos h1]; exact h.t1
 ·rw [if_neg h1];by_cases h2 : i < x.base ∨ x.last < i
  ·rw [if_pos h2]; omega
  ·rw [if_neg h2];have hl : x.last = x.base + (x.l.length : Int) := rfl;have hlt : (i - x.base - 1).toNat < x.l.length := by omega
   have hm := h.its _ (List.getElem_mem hlt);have := ((rightI_iff _).1 hm).2.1;rw [getD_in hlt]; exact this
def PLine.add (x : PLine) (it : PItem) : PLine × Int :=
 if rightI it = true ∧ fitsB x ((x.l.length : Int) + 1) = true then ({ x with l := x.l ++ [it] }, x.last + 1) else (x, 0)
theorem PLine.Good.add {x : PLine} (h : x.Good) (it : PItem) : (x.add it).1.Good := by
 unfold PLine.add;split
 ·rename_i hh
  obtain ⟨h1, h2⟩ := hh;simp [fitsB] at h2;refine ⟨h.b0, h.b1, h.t0, h.t1, by simp; omega, by simp; omega, fun y hy => ?_⟩;simp at hy;rcases hy with hy | rfl
  ·exact h.its y hy
  ·exact h1
 ·exact h
def PLine.diff (x : PLine) (i : Int) : List PItem → Option (Int × List PItem)
 | [] => none
 | it :: r => if i ≤ x.base ∨ x.tm i = it.1 then x.diff (i + 1) r else some (i, it :: r)
def PLine.join (x : PLine) (prev term : Int) (its : List PItem) : PLine × Int × Bool :=
 if prev < 0 ∨ x.last < prev ∨ (its.any fun it => !rightI it) = true then (x, 0, false)
 else if x.base ≤ prev ∧ x.tm prev ≠ term then (x, 0, false)
 else match x.diff (prev + 1) its with
  | none => (x, 0, true)
  | some (i, r) => if fitsB x (i - x.base - 1 + r.length) = true then ({ x with l := x.l.take (i - x.base - 1).toNat ++ r }, i, true) else (x, 0, false)
theorem PLine.diff_some {x : PLine} : ∀ {its : List PItem} {i j : Int} {r : List PItem}, x.diff i its = some (j, r) → ∃ k : Nat, k < its.length ∧ j = i + k ∧ r = its.drop k ∧ x.base < j ∧ x.tm j ≠ (its.getD k (0, [])).1 ∧ ∀ m, m < k → (i + m ≤ x.base ∨ x.tm (i + m) = (its.getD m (0, [])).1)
 | [], i, j, r, h => by simp [PLine.diff] at h
 | it :: rest, i, j, r, h => by
  simp only [PLine.diff] at h;by_cases h1 : i ≤ x.base ∨ x.tm i = it.1
  ·rw [if_pos h1] at h;obtain ⟨k, h2, h3, h4, h5, h6, h7⟩ := PLine.diff_some h;refine ⟨k + 1, by simp; omega, by omega, by simpa using h4, h5, by simpa using h6, fun m hm => ?_⟩;cases m with
   | zero => simpa using h1
   | succ m =>
    have := h7 m (by omega);rw [show i + 1 + (m : Int) = i + ((m + 1 : Nat) : Int) by omega] at this;simpa using this
  ·rw [if_neg h1] at h;injection h with h
   injection h with h2 h3
   subst h2 h3;exact ⟨0, by simp, by omega, rfl, by omega, by simp; omega, fun m hm => by omega⟩
theorem PLine.diff_none {x : PLine} : ∀ {its : List PItem} {i : Int}, x.diff i its = none → ∀ m, m < its.length → (i + m ≤ x.base ∨ x.tm (i + m) = (its.getD m (0, [])).1)
 | [], i, h, m, hm => by simp at hm
 | it :: rest, i, h, m, hm => by
  simp only [PLine.diff] at h;by_cases h1 : i ≤ x.base ∨ x.tm i = it.1
  ·rw [if_pos h1] at h;cases m with
   | zero => simpa using h1
   | succ m =>
    have := PLine.diff_none h m (by simpa using hm);rw [show i + 1 + (m : Int) = i + ((m + 1 : Nat) : Int) by omega] at this;simpa using this
  ·rw [if_neg h1] at h; cases h
theorem PLine.diff_step {x : PLine} {i : Int} {its : List PItem} (hn : 0 < its.length) (h : i ≤ x.base ∨ x.tm i = (its.getD 0 (0, [])).1) : x.diff i its = x.diff (i + 1) (its.drop 1) := by
 cases its with
 | nil => simp at hn
 | cons it r => simp only [PLine.diff]; rw [if_pos (by simpa using h)]; rfl
theorem PLine.diff_stop {x : PLine} {i : Int} {its : List PItem} (hn : 0 < its.length) (h : ¬ (i ≤ x.base ∨ x.tm i = (its.getD 0 (0, [])).1)) : x.diff i its = some (i, its) := by
 cases its with
 | nil => simp at hn
 | cons it r => simp only [PLine.diff]; rw [if_neg (by simpa using h)]
theorem PLine.Good.join {x : PLine} (h : x.Good) (prev term : Int) (its : List PItem) : (x.join prev term its).1.Good := by
 unfold PLine.join;split
 ·exact h
 split
 ·exact h
 rename_i h1 h2
 cases hd : x.diff (prev + 1) its with
 | none => exact h
 | some p =>
  obtain ⟨j, r⟩ := p;simp only;split
  ·rename_i hf
   simp [fitsB] at hf;obtain ⟨k, h3, h4, h5, h6, _, _⟩ := PLine.diff_some hd;have hl : (x.l.take (j - x.base - 1).toNat).length ≤ (j - x.base - 1).toNat := List.length_take_le _ _;refine ⟨h.b0, h.b1, h.t0, h.t1, by simp only [List.length_append]; omega, by simp only [List.length_append]; omega, fun y hy => ?_⟩;simp only [List.mem_append] at hy;rcases hy with hy | hy
   ·exact h.its y (List.mem_of_mem_take hy)
   ·rw [h5] at hy;have hm := List.mem_of_mem_drop hy;cases hr : rightI y with
    | true => rfl
    | false => exact absurd (.inr (.inr (List.any_eq_true.2 ⟨y, hm, by simp [hr]⟩))) h1
  ·exact h
def PLine.drop (x : PLine) (i : Int) : PLine × Bool :=
 if x.tm i < 0 then (x, false) else (⟨i, x.tm i, x.l.drop (i - x.base).toNat⟩, true)
theorem PLine.Good.drop {x : PLine} (h : x.Good) (i : Int) : (x.drop i).1.Good := by
 unfold PLine.drop;split
 ·exact h
 ·rename_i h1
  have h2 := (h.tm_ge i).1 (by omega);have hl : x.last = x.base + (x.l.length : Int) := rfl;have := h.b0;have := h.b1;have := h.n1;have := h.n2;refine ⟨by simp only; omega, by simp only; omega, by simp only; omega, h.tm_le i, by simp; omega, by simp; omega, fun y hy => h.its y (List.mem_of_mem_drop hy)⟩
def PLine.from_ (x : PLine) (i most : Int) : List PItem :=
 if i ≤ x.base ∨ x.last < i ∨ most < 1 then [] else (x.l.drop (i - x.base - 1).toNat).take most.toNat
def putItems : List PItem → List UInt8
 | [] => []
 | it :: r => putNum it.1.toNat ++ putText it.2 ++ putItems r
def PLine.put (x : PLine) : List UInt8 := putNum x.base.toNat ++ putNum x.term.toNat ++ putNum x.l.length ++ putItems x.l
def getItems : Nat → List UInt8 → Res (List PItem)
 | 0, r => .ok [] r
 | n + 1, r => (getNum 1099511627776 r).bind fun t r1 => (getText 8192 r1).bind fun b r2 => (getItems n r2).bind fun l r3 => .ok ((↑t, b) :: l) r3
def getLine (r : List UInt8) : Res PLine :=
 (getNum 1099511627776 r).bind fun b r1 => (getNum 1099511627776 r1).bind fun t r2 => (getNum 4096 r2).bind fun n r3 => (getItems n r3).bind fun l r4 => .ok ⟨b, t, l⟩ r4
theorem sane_items : ∀ (n : Nat) (r : List UInt8), (getItems n r).sane
 | 0, r => sane_ok _ _
 | n + 1, r => Res.sane_bind (sane_num _ _) fun _ _ => Res.sane_bind (sane_text _ _) fun _ _ => Res.sane_bind (sane_items n _) fun _ _ => sane_ok _ _
theorem sane_line (r : List UInt8) : (getLine r).sane :=
 Res.sane_bind (sane_num _ _) fun _ _ => Res.sane_bind (sane_num _ _) fun _ _ => Res.sane_bind (sane_num _ _) fun _ _ => Res.sane_bind (sane_items _ _) fun _ _ => sane_ok _ _
theorem getItems_put (l : List PItem) (h : ∀ it ∈ l, rightI it = true) (r : List UInt8) : getItems l.length (putItems l ++ r) = .ok l r := by
 induction l with
 | nil => rfl
 | cons it l ih =>
  obtain ⟨h1, h2, h3⟩ := (rightI_iff it).1 (h it (by simp));have e := ih (fun y hy => h y (by simp [hy]));simp only [List.length_cons, getItems, putItems, List.append_assoc];rw [getNum_put _ _ _ (by omega) (by omega), Res.bind_ok, getText_put _ _ _ (by omega) (by omega), Res.bind_ok, e, Res.bind_ok]
  congr 2
  exact Prod.ext (by simp; omega) rfl
theorem getItems_ok : ∀ {n : Nat} {r rest : List UInt8} {l : List PItem}, getItems n r = .ok l rest → l.length = n ∧ r = putItems l ++ rest ∧ ∀ it ∈ l, rightI it = true
 | 0, r, rest, l, h => by
  simp only [getItems] at h;injection h with h1 h2
  subst h1 h2;exact ⟨rfl, rfl, by simp⟩
 | n + 1, r, rest, l, h => by
  simp only [getItems] at h;cases h1 : getNum 1099511627776 r with
  | err x => rw [h1] at h; cases h
  | ok t r1 =>
  rw [h1] at h; simp only [Res.bind_ok] at h;cases h2 : getText 8192 r1 with
  | err x => rw [h2] at h; cases h
  | ok b r2 =>
  rw [h2] at h; simp only [Res.bind_ok] at h;cases h3 : getItems n r2 with
  | err x => rw [h3] at h; cases h
  | ok l' r3 =>
  rw [h3] at h; simp only [Res.bind_ok] at h;injection h with h4 h5
  subst h4 h5;obtain ⟨e1, e2, e3⟩ := getItems_ok h3;obtain ⟨f1, f2⟩ := text_put h2;have f3 := getNum_most h1;refine ⟨by simp [e1], ?_, fun it hit => ?_⟩
  ·rw [get_put h1, f1, e2];simp [putItems]
  ·simp at hit;rcases hit with rfl | hit
   ·exact (rightI_iff _).2 ⟨by simp, by simp; omega, by simpa using f2⟩
   ·exact e3 it hit
theorem getLine_put {x : PLine} (h : x.Good) (r : List UInt8) : getLine (x.put ++ r) = .ok x r := by
 have h1 := h.b0;have h2 := h.b1;have h3 := h.t0;have h4 := h.t1;have h5 := h.n1;simp only [getLine, PLine.put, List.append_assoc];rw [getNum_put _ _ _ (by omega) (by omega), Res.bind_ok, getNum_put _ _ _ (by omega) (by omega), Res.bind_ok, getNum_put _ _ _ (by omega) (by omega), Res.bind_ok, getItems_put _ h.its, Res.bind_ok];obtain ⟨b, t, l⟩ := x;simp only at h1 h3;have e1 : ((b.toNat : Nat) : Int) = b := by omega
 have e2 : ((t.toNat : Nat) : Int) = t := by omega
 rw [e1, e2]
theorem getLine_ok {r rest : List UInt8} {x : PLine} (h : getLine r = .ok x rest) : r = x.put ++ rest ∧ 0 ≤ x.base ∧ x.base ≤ 1099511627776 ∧ 0 ≤ x.term ∧ x.term ≤ 1099511627776 ∧ x.l.length ≤ 4096 ∧ ∀ it ∈ x.l, rightI it = true := by
 unfold getLine at h;cases h1 : getNum 1099511627776 r with
 | err x => rw [h1] at h; cases h
 | ok b r1 =>
 rw [h1] at h; simp only [Res.bind_ok] at h;cases h2 : getNum 1099511627776 r1 with
 | err x => rw [h2] at h; cases h
 | ok t r2 =>
 rw [h2] at h; simp only [Res.bind_ok] at h;cases h3 : getNum 4096 r2 with
 | err x => rw [h3] at h; cases h
 | ok n r3 =>
 rw [h3] at h; simp only [Res.bind_ok] at h;cases h4 : getItems n r3 with
 | err x => rw [h4] at h; cases h
 | ok l r4 =>
 rw [h4] at h; simp only [Res.bind_ok] at h;injection h with h5 h6
 subst h5 h6;obtain ⟨e1, e2, e3⟩ := getItems_ok h4;have f1 := getNum_most h1;have f2 := getNum_most h2;have f3 := getNum_most h3;refine ⟨?_, by simp, by simp; omega, by simp, by simp; omega, by simp [e1]; omega, e3⟩;rw [get_put h1, get_put h2, get_put h3, e2];simp [PLine.put, e1]
end Go.Proofs.YtogcnfhmcpkdcaaGreat
