/-
  The plain law of fields: numbers, texts, digests as bytes. No program in sight.
  A number that is read to the end has just the bytes from which it was read. No program in sight.
  What is written is read as it was, and what is read has just the bytes that would be written. No program in sight.
-/
import Derived.Test.YtogcnfhmcpkdcaaGreatMemB
namespace Go.Proofs.YtogcnfhmcpkdcaaGreat
open Go.RowKit
abbrev bv (c : UInt8) : Value := .int .u8 (c.toNat : Int)
structure BsAt (w : World) (B : Nat) (a : Option Addr) (n c : Nat) (l : List UInt8) : Prop where
 hlen : l.length = n
 hle : n ≤ c
 hmax : c ≤ maxLen
 hnil : a = none → c = 0
 hbig : n ≤ 140737488355328
 hat : 0 < n → ∃ b o, a = some ⟨b, o, none⟩ ∧ b < B ∧ ∀ i, i < n → w.cell? ⟨b, o + i, none⟩ = some (.int .u8 ((l.getD i 0).toNat : Int))
theorem BsAt.mono {w : World} {B B' : Nat} {a : Option Addr} {n c : Nat} {l : List UInt8} (h : BsAt w B a n c l) (hB : B ≤ B') : BsAt w B' a n c l :=
 ⟨h.hlen, h.hle, h.hmax, h.hnil, h.hbig, fun hp => let ⟨b, o, e, hb, hc⟩ := h.hat hp; ⟨b, o, e, Nat.lt_of_lt_of_le hb hB, hc⟩⟩
theorem BsAt.below {w w' : World} {B B' : Nat} {a : Option Addr} {n c : Nat} {l : List UInt8} (h : BsAt w B a n c l) (hb : Below B' w w') (hB : B ≤ B') : BsAt w' B a n c l :=
 ⟨h.hlen, h.hle, h.hmax, h.hnil, h.hbig, fun hp => let ⟨b, o, e, hl, hc⟩ := h.hat hp; ⟨b, o, e, hl, fun i hi => (hb.cell (p := ⟨b, o + i, none⟩) (Nat.lt_of_lt_of_le hl hB)).trans (hc i hi)⟩⟩
theorem BsAt.setCell {w : World} {B : Nat} {a : Option Addr} {n c : Nat} {l : List UInt8} (h : BsAt w B a n c l) {q : Addr} {a' : Option Addr} {n' c' : Nat} (hq : w.cell? q = some (.slice a' n' c')) (v : Value) :
  BsAt (w.setCell q v) B a n c l :=
 ⟨h.hlen, h.hle, h.hmax, h.hnil, h.hbig, fun hp => let ⟨b, o, e, hl, hc⟩ := h.hat hp; ⟨b, o, e, hl, fun i hi => by
  have h1 := hc i hi;rw [← h1];have e2 : q ≠ ⟨b, o + i, none⟩ := fun e2 => by
   rw [← e2, hq] at h1; cases h1
  exact World.cell?_setCell_other _ _ _ _ e2⟩⟩
theorem bsAt_of_slAt {w : World} {B : Nat} {a : Option Addr} {n c : Nat} {l : List UInt8} (h : SlAt w B 1 a n c (l.map bv)) (hn : n ≤ 140737488355328) : BsAt w B a n c l := by
 have hl : l.length = n := by simpa using h.hlen
 refine ⟨hl, h.hle, h.hmax, h.hnil, hn, fun hp => ?_⟩;obtain ⟨b, o, e, hb, hc⟩ := h.hat (by simp; omega);refine ⟨b, o, e, hb, fun i hi => ?_⟩;rw [hc i (by simp; omega)];simp [List.getElem?_map, List.getD, List.getElem?_eq_getElem (show i < l.length by omega)]
theorem bsAt_of_owns {w : World} {base e n : Nat} {v : Value} {l : List UInt8} (h : w.ownsRow base e 1 v n (l.map bv)) (hn : n ≤ 140737488355328) : ∃ a c, v = .slice a n c ∧ BsAt w w.heap.size a n c l := by
 obtain ⟨a, c, rfl, hs⟩ := SlAt.ofOwns h;exact ⟨a, c, rfl, bsAt_of_slAt hs hn⟩
theorem BsAt.zero (w : World) (B : Nat) (a : Option Addr) (c : Nat) (hc : c ≤ maxLen) (hn : a = none → c = 0) : BsAt w B a 0 c [] :=
 ⟨rfl, Nat.zero_le _, hc, hn, by omega, fun hp => absurd hp (by omega)⟩
theorem BsAt.take {w : World} {B : Nat} {a : Option Addr} {n c : Nat} {l : List UInt8} (h : BsAt w B a n c l) {k : Nat} (hk : k ≤ n) : BsAt w B a k k (l.take k) := by
 refine ⟨by simp [h.hlen]; omega, Nat.le_refl _, Nat.le_trans hk (Nat.le_trans h.hle h.hmax), fun e => by have := h.hnil e; have := h.hle; omega, Nat.le_trans hk h.hbig, fun hp => ?_⟩;obtain ⟨b, o, e, hb, hc⟩ := h.hat (by omega);refine ⟨b, o, e, hb, fun i hi => ?_⟩;rw [hc i (by omega)];simp [List.getD, List.getElem?_take_of_lt hi]
theorem BsAt.drop {w : World} {B b o : Nat} {n c : Nat} {l : List UInt8} (h : BsAt w B (some ⟨b, o, none⟩) n c l) {k : Nat} (hk : k ≤ n) : BsAt w B (some ⟨b, o + k, none⟩) (n - k) (c - k) (l.drop k) := by
 have h1 := h.hle;have h2 := h.hmax;have h3 := h.hbig;refine ⟨by simp [h.hlen], by omega, by omega, fun e => by simp at e, by omega, fun hp => ?_⟩;obtain ⟨b', o', e, hb, hc⟩ := h.hat (by omega);simp at e;obtain ⟨rfl, rfl⟩ := e;refine ⟨b, o + k, rfl, hb, fun i hi => ?_⟩;rw [Nat.add_assoc, hc _ (by omega)];simp [List.getD, List.getElem?_drop]
def leF : Nat → Nat → List UInt8
 | 0, _ => []
 | f + 1, n => if n = 0 then [] else UInt8.ofNat n :: leF f (n / 256)
def le (n : Nat) : List UInt8 := leF n n
theorem leF_enough : ∀ (f g n : Nat), n ≤ f → n ≤ g → leF f n = leF g n
 | 0, 0, _, _, _ => rfl
 | 0, g + 1, n, h, _ => by have : n = 0 := by omega
                           subst this; simp [leF]
 | f + 1, 0, n, _, h => by have : n = 0 := by omega
                           subst this; simp [leF]
 | f + 1, g + 1, n, hf, hg => by
  simp only [leF];by_cases h0 : n = 0
  ·simp [h0]
  ·rw [if_neg h0, if_neg h0, leF_enough f g (n / 256) (by omega) (by omega)]
theorem le_zero : le 0 = [] := rfl
theorem le_pos {n : Nat} (h : 0 < n) : le n = UInt8.ofNat n :: le (n / 256) := by
 unfold le;obtain ⟨m, rfl⟩ : ∃ m, n = m + 1 := ⟨n - 1, by omega⟩
 simp only [leF];rw [if_neg (by omega), leF_enough m ((m + 1) / 256) ((m + 1) / 256) (by omega) (by omega)]
def be (l : List UInt8) : Nat := l.foldl (fun v c => v * 256 + c.toNat) 0
def putNum (n : Nat) : List UInt8 := UInt8.ofNat (le n).length :: (le n).reverse
def putText (l : List UInt8) : List UInt8 := putNum l.length ++ l
inductive Res (α : Type) where
 | err (e : Int)
 | ok (x : α) (rest : List UInt8)
def getNum (most : Nat) (l : List UInt8) : Res Nat :=
 match l with
 | [] => .err 2
 | k :: r =>
  if 8 < k.toNat then .err 3
  else if r.length < k.toNat then .err 2
  else if 0 < k.toNat ∧ r.getD 0 0 = 0 then .err 3
  else if most < be (r.take k.toNat) then .err 5
  else .ok (be (r.take k.toNat)) (r.drop k.toNat)
def getTake (n : Nat) (l : List UInt8) : Res (List UInt8) :=
 if l.length < n then .err 2 else .ok (l.take n) (l.drop n)
def getText (most : Nat) (l : List UInt8) : Res (List UInt8) :=
 match getNum most l with
 | .err e => .err e
 | .ok n r => getTake n r
end Go.Proofs.YtogcnfhmcpkdcaaGreat
namespace Go.Proofs.YtogcnfhmcpkdcaaGreat
theorem be_snoc' (l : List UInt8) (c : UInt8) : be (l ++ [c]) = be l * 256 + c.toNat := by simp [be]
theorem be_pos : ∀ (l : List UInt8), l ≠ [] → l.getD 0 0 ≠ 0 → 0 < be l := by
 intro l
 induction l using snocInd with
 | h0 => intro h; exact absurd rfl h
 | h1 l c ih =>
  intro _ h;rw [be_snoc'];by_cases hl : l = []
  ·subst hl;have hc : c ≠ 0 := by simpa using h
   have : c.toNat ≠ 0 := fun e => hc (UInt8.toNat_inj.1 e)
   omega
  ·have h2 : l.getD 0 0 ≠ 0 := by
    cases l with
    | nil => exact absurd rfl hl
    | cons x xs => simpa using h
   have := ih hl h2;omega
theorem le_be : ∀ (l : List UInt8), (l ≠ [] → l.getD 0 0 ≠ 0) → le (be l) = l.reverse := by
 intro l
 induction l using snocInd with
 | h0 => intro _; rfl
 | h1 l c ih =>
  intro h;have hc := c.toNat_lt;have hp := be_pos (l ++ [c]) (by simp) (h (by simp));rw [le_pos hp, be_snoc'];have e1 : (be l * 256 + c.toNat) / 256 = be l := by omega
  have e2 : UInt8.ofNat (be l * 256 + c.toNat) = c := by
   apply UInt8.toNat_inj.1
   simp
  rw [e1, e2, ih ?_]
  ·simp
  ·intro hl;have := h (by simp);cases l with
   | nil => exact absurd rfl hl
   | cons x xs => simpa using this
end Go.Proofs.YtogcnfhmcpkdcaaGreat
namespace Go.Proofs.YtogcnfhmcpkdcaaGreat
set_option linter.unusedVariables false
theorem be_le_rev (n : Nat) : be (le n).reverse = n := by
 induction n using Nat.strongRecOn with
 | ind n ih =>
  by_cases h0 : n = 0
  ·subst h0; rfl
  ·rw [le_pos (by omega), List.reverse_cons, be_snoc', ih (n / 256) (by omega)];have : (UInt8.ofNat n).toNat = n % 256 := by simp
   rw [this]; omega
theorem le_last_ne (n : Nat) (h : 0 < n) : (le n).reverse.getD 0 0 ≠ 0 := by
 induction n using Nat.strongRecOn with
 | ind n ih =>
  rw [le_pos h, List.reverse_cons];by_cases h0 : n / 256 = 0
  ·rw [h0, le_zero];intro e;have e2 : UInt8.ofNat n = 0 := by simpa using e
   have := congrArg UInt8.toNat e2;simp at this;omega
  ·have h1 := ih (n / 256) (by omega) (by omega);have h2 : 0 < (le (n / 256)).reverse.length := by rw [List.length_reverse, le_pos (by omega)]; simp
   have h3 : ((le (n / 256)).reverse ++ [UInt8.ofNat n]).getD 0 0 = (le (n / 256)).reverse.getD 0 0 := by
    simp only [List.getD, List.getElem?_append_left h2]
   rw [h3]; exact h1
theorem le_len' (k : Nat) : ∀ n, n < 256 ^ k → (le n).length ≤ k := by
 induction k with
 | zero => intro n h; have : n = 0 := by simpa using h
           subst this; simp [le_zero]
 | succ k ih =>
  intro n h;by_cases h0 : n = 0
  ·subst h0; simp [le_zero]
  ·rw [le_pos (by omega)];have := ih (n / 256) (by rw [Nat.pow_succ] at h; omega)
   simp; omega
theorem getNum_put (most n : Nat) (r : List UInt8) (h64 : n < 18446744073709551616) (hm : n ≤ most) : getNum most (putNum n ++ r) = .ok n r := by
 have h8 : (le n).length ≤ 8 := le_len' 8 n (by omega);have hk : (UInt8.ofNat (le n).length).toNat = (le n).length := by simp; omega
 simp only [putNum, List.cons_append, getNum, hk];have ht : ((le n).reverse ++ r).take (le n).length = (le n).reverse := by
  rw [← List.length_reverse, List.take_left]
 have hd : ((le n).reverse ++ r).drop (le n).length = r := by
  rw [← List.length_reverse, List.drop_left]
 rw [if_neg (by omega), if_neg (by simp), ht, hd, be_le_rev, if_neg, if_neg (by omega)];rintro ⟨h1, h2⟩;have h0 : 0 < n := by
  rcases Nat.eq_zero_or_pos n with h | h
  ·subst h; simp [le_zero] at h1
  ·exact h
 have h3 : 0 < (le n).reverse.length := by simpa using h1
 have h4 : ((le n).reverse ++ r).getD 0 0 = (le n).reverse.getD 0 0 := by simp only [List.getD, List.getElem?_append_left h3]
 rw [h4] at h2;exact le_last_ne n h0 h2
theorem get_put {most v : Nat} {l r : List UInt8} (h : getNum most l = .ok v r) : l = putNum v ++ r := by
 cases l with
 | nil => simp [getNum] at h
 | cons k t =>
  have hk := k.toNat_lt;simp only [getNum] at h;split at h
  ·cases h
  split at h
  ·cases h
  split at h
  ·cases h
  split at h
  ·cases h
  rename_i h1 h2 h3 h4
  injection h with h5 h6
  have hlen : (t.take k.toNat).length = k.toNat := by simp; omega
  have hr : le (be (t.take k.toNat)) = (t.take k.toNat).reverse := le_be _ (fun hn e => h3 ⟨by
   rcases Nat.eq_zero_or_pos k.toNat with h | h
   ·rw [h] at hn; simp at hn
   ·exact h, by
   have h0 : 0 < k.toNat := by
    rcases Nat.eq_zero_or_pos k.toNat with h | h
    ·rw [h] at hn; simp at hn
    ·exact h
   have h7 : (t.take k.toNat).getD 0 0 = t.getD 0 0 := by simp [List.getD, List.getElem?_take_of_lt h0]
   rw [← h7]; exact e⟩)
  rw [← h5, putNum, hr, ← h6, List.length_reverse, hlen]
  simp
theorem getNum_most {most v : Nat} {l r : List UInt8} (h : getNum most l = .ok v r) : v ≤ most := by
 cases l with
 | nil => simp [getNum] at h
 | cons k t =>
  simp only [getNum] at h
  repeat' split at h
  all_goals first | (cases h; omega) | (cases h)
theorem getNum_errs {most : Nat} {l : List UInt8} {x : Int} (h : getNum most l = .err x) : x = 2 ∨ x = 3 ∨ x = 5 := by
 cases l with
 | nil => simp [getNum] at h; omega
 | cons k t =>
  simp only [getNum] at h
  repeat' split at h
  all_goals first | (cases h; simp) | (cases h)
theorem getTake_put (d r : List UInt8) (n : Nat) (h : d.length = n) : getTake n (d ++ r) = .ok d r := by
 subst h;simp [getTake]
theorem take_put {n : Nat} {l d r : List UInt8} (h : getTake n l = .ok d r) : l = d ++ r ∧ d.length = n := by
 simp only [getTake] at h;split at h
 ·cases h
 ·injection h with h1 h2
  subst h1 h2
  rename_i hl
  exact ⟨(List.take_append_drop _ _).symm, by simp; omega⟩
theorem getTake_errs {n : Nat} {l : List UInt8} {x : Int} (h : getTake n l = .err x) : x = 2 := by
 simp only [getTake] at h;split at h
 ·cases h; rfl
 ·cases h
theorem getText_put (most : Nat) (t r : List UInt8) (h64 : t.length < 18446744073709551616) (hm : t.length ≤ most) : getText most (putText t ++ r) = .ok t r := by
 simp only [getText, putText, List.append_assoc, getNum_put most t.length (t ++ r) h64 hm];exact getTake_put t r _ rfl
theorem text_put {most : Nat} {l t r : List UInt8} (h : getText most l = .ok t r) : l = putText t ++ r ∧ t.length ≤ most := by
 simp only [getText] at h;cases hg : getNum most l with
 | err x => rw [hg] at h; cases h
 | ok n r' =>
  rw [hg] at h;obtain ⟨h1, h2⟩ := take_put h;have h3 := get_put hg;have h4 := getNum_most hg;subst h2;exact ⟨by rw [h3, h1, putText, List.append_assoc], h4⟩
theorem getText_errs {most : Nat} {l : List UInt8} {x : Int} (h : getText most l = .err x) : x = 2 ∨ x = 3 ∨ x = 5 := by
 simp only [getText] at h;cases hg : getNum most l with
 | err y => rw [hg] at h; cases h; exact getNum_errs hg
 | ok n r' => rw [hg] at h; exact .inl (getTake_errs h)
def Res.bind {α β : Type} (r : Res α) (f : α → List UInt8 → Res β) : Res β :=
 match r with
 | .err x => .err x
 | .ok v rest => f v rest
@[simp] theorem Res.bind_err {α β : Type} (x : Int) (f : α → List UInt8 → Res β) : (Res.err x : Res α).bind f = .err x := rfl
@[simp] theorem Res.bind_ok {α β : Type} (v : α) (r : List UInt8) (f : α → List UInt8 → Res β) : (Res.ok v r).bind f = f v r := rfl
def Res.code {α : Type} : Res α → Int
 | .err x => x
 | .ok _ r => if r = [] then 0 else 3
def Res.sane {α : Type} (r : Res α) : Prop := ∀ x, r = .err x → x ≠ 0
theorem sane_num (most : Nat) (l : List UInt8) : (getNum most l).sane := fun x h => by have := getNum_errs h; omega
theorem sane_text (most : Nat) (l : List UInt8) : (getText most l).sane := fun x h => by have := getText_errs h; omega
theorem Res.sane_bind {α β : Type} {r : Res α} {f : α → List UInt8 → Res β} (h : r.sane) (hf : ∀ v rest, (f v rest).sane) : (r.bind f).sane := by
 intro x hx;cases r with
 | err y => simp at hx; subst hx; exact h y rfl
 | ok v rest => exact hf v rest x hx
theorem sane_ok {α : Type} (v : α) (r : List UInt8) : (Res.ok v r).sane := fun x h => by cases h
end Go.Proofs.YtogcnfhmcpkdcaaGreat
