/-
  The plain law of fields: numbers, texts, digests as bytes. No program in sight.
-/
import Derived.Test.YtogcnfhmcpkdcaaMem
import Derived.Test.YtogcnfhmcpkdcaaBase
namespace Go.Proofs.Ytogcnfhmcpkdcaa
open Go.RowKit

/-- a byte as a value -/
abbrev bv (c : UInt8) : Value := .int .u8 (c.toNat : Int)

/-- the slice '.slice a n c' reads as these bytes, all of them in one block below B -/
structure BsAt (w : World) (B : Nat) (a : Option Addr) (n c : Nat) (l : List UInt8) : Prop where
  hlen : l.length = n
  hle : n ≤ c
  hmax : c ≤ maxLen
  hnil : a = none → c = 0
  hbig : n ≤ 140737488355328
  hat : 0 < n → ∃ b o, a = some ⟨b, o, none⟩ ∧ b < B ∧ ∀ i, i < n → w.cell? ⟨b, o + i, none⟩ = some (.int .u8 ((l.getD i 0).toNat : Int))

theorem BsAt.mono {w : World} {B B' : Nat} {a : Option Addr} {n c : Nat} {l : List UInt8} (h : BsAt w B a n c l) (hB : B ≤ B') : BsAt w B' a n c l :=
  ⟨h.hlen, h.hle, h.hmax, h.hnil, h.hbig, fun hp => let ⟨b, o, e, hb, hc⟩ := h.hat hp; ⟨b, o, e, Nat.lt_of_lt_of_le hb hB, hc⟩⟩

theorem BsAt.below {w w' : World} {B B' : Nat} {a : Option Addr} {n c : Nat} {l : List UInt8} (h : BsAt w B a n c l) (hb : Below B' w w') (hB : B ≤ B') : BsAt w' B a n c l :=
  ⟨h.hlen, h.hle, h.hmax, h.hnil, h.hbig, fun hp => let ⟨b, o, e, hl, hc⟩ := h.hat hp; ⟨b, o, e, hl, fun i hi => (hb.cell (p := ⟨b, o + i, none⟩) (Nat.lt_of_lt_of_le hl hB)).trans (hc i hi)⟩⟩

/-- laying a slice into a cell that holds a slice leaves all bytes -/
theorem BsAt.setCell {w : World} {B : Nat} {a : Option Addr} {n c : Nat} {l : List UInt8} (h : BsAt w B a n c l) {q : Addr} {a' : Option Addr} {n' c' : Nat} (hq : w.cell? q = some (.slice a' n' c')) (v : Value) :
    BsAt (w.setCell q v) B a n c l :=
  ⟨h.hlen, h.hle, h.hmax, h.hnil, h.hbig, fun hp => let ⟨b, o, e, hl, hc⟩ := h.hat hp; ⟨b, o, e, hl, fun i hi => by
    have h1 := hc i hi
    rw [← h1]
    have e2 : q ≠ ⟨b, o + i, none⟩ := fun e2 => by
      rw [← e2, hq] at h1; cases h1
    exact World.cell?_setCell_other _ _ _ _ e2⟩⟩

theorem bsAt_of_slAt {w : World} {B : Nat} {a : Option Addr} {n c : Nat} {l : List UInt8} (h : SlAt w B 1 a n c (l.map bv)) (hn : n ≤ 140737488355328) : BsAt w B a n c l := by
  have hl : l.length = n := by simpa using h.hlen
  refine ⟨hl, h.hle, h.hmax, h.hnil, hn, fun hp => ?_⟩
  obtain ⟨b, o, e, hb, hc⟩ := h.hat (by simp; omega)
  refine ⟨b, o, e, hb, fun i hi => ?_⟩
  rw [hc i (by simp; omega)]
  simp [List.getElem?_map, List.getD, List.getElem?_eq_getElem (show i < l.length by omega)]

theorem bsAt_of_owns {w : World} {base e n : Nat} {v : Value} {l : List UInt8} (h : w.ownsRow base e 1 v n (l.map bv)) (hn : n ≤ 140737488355328) : ∃ a c, v = .slice a n c ∧ BsAt w w.heap.size a n c l := by
  obtain ⟨a, c, rfl, hs⟩ := SlAt.ofOwns h
  exact ⟨a, c, rfl, bsAt_of_slAt hs hn⟩

theorem BsAt.zero (w : World) (B : Nat) (a : Option Addr) (c : Nat) (hc : c ≤ maxLen) (hn : a = none → c = 0) : BsAt w B a 0 c [] :=
  ⟨rfl, Nat.zero_le _, hc, hn, by omega, fun hp => absurd hp (by omega)⟩

/-- a prefix, a rest of a slice of bytes -/
theorem BsAt.take {w : World} {B : Nat} {a : Option Addr} {n c : Nat} {l : List UInt8} (h : BsAt w B a n c l) {k : Nat} (hk : k ≤ n) : BsAt w B a k k (l.take k) := by
  refine ⟨by simp [h.hlen]; omega, Nat.le_refl _, Nat.le_trans hk (Nat.le_trans h.hle h.hmax), fun e => by have := h.hnil e; have := h.hle; omega, Nat.le_trans hk h.hbig, fun hp => ?_⟩
  obtain ⟨b, o, e, hb, hc⟩ := h.hat (by omega)
  refine ⟨b, o, e, hb, fun i hi => ?_⟩
  rw [hc i (by omega)]
  simp [List.getD, List.getElem?_take_of_lt hi]

theorem BsAt.drop {w : World} {B b o : Nat} {n c : Nat} {l : List UInt8} (h : BsAt w B (some ⟨b, o, none⟩) n c l) {k : Nat} (hk : k ≤ n) : BsAt w B (some ⟨b, o + k, none⟩) (n - k) (c - k) (l.drop k) := by
  have h1 := h.hle
  have h2 := h.hmax
  have h3 := h.hbig
  refine ⟨by simp [h.hlen], by omega, by omega, fun e => by simp at e, by omega, fun hp => ?_⟩
  obtain ⟨b', o', e, hb, hc⟩ := h.hat (by omega)
  simp at e
  obtain ⟨rfl, rfl⟩ := e
  refine ⟨b, o + k, rfl, hb, fun i hi => ?_⟩
  rw [Nat.add_assoc, hc _ (by omega)]
  simp [List.getD, List.getElem?_drop]

/-- a number's bytes, the least first -/
def leF : Nat → Nat → List UInt8
  | 0, _ => []
  | f + 1, n => if n = 0 then [] else UInt8.ofNat n :: leF f (n / 256)
def le (n : Nat) : List UInt8 := leF n n

theorem leF_enough : ∀ (f g n : Nat), n ≤ f → n ≤ g → leF f n = leF g n
  | 0, 0, _, _, _ => rfl
  | 0, g + 1, n, h, _ => by have : n = 0 := by omega
                            subst this; simp [leF]
  | f + 1, 0, n, _, h => by have : n = 0 := by omega
                            subst this; simp [leF]
  | f + 1, g + 1, n, hf, hg => by
    simp only [leF]
    by_cases h0 : n = 0
    · simp [h0]
    · rw [if_neg h0, if_neg h0, leF_enough f g (n / 256) (by omega) (by omega)]

theorem le_zero : le 0 = [] := rfl
theorem le_pos {n : Nat} (h : 0 < n) : le n = UInt8.ofNat n :: le (n / 256) := by
  unfold le
  obtain ⟨m, rfl⟩ : ∃ m, n = m + 1 := ⟨n - 1, by omega⟩
  simp only [leF]
  rw [if_neg (by omega), leF_enough m ((m + 1) / 256) ((m + 1) / 256) (by omega) (by omega)]

/-- the number of bytes, the greatest first -/
def be (l : List UInt8) : Nat := l.foldl (fun v c => v * 256 + c.toNat) 0

def putNum (n : Nat) : List UInt8 := UInt8.ofNat (le n).length :: (le n).reverse
def putText (l : List UInt8) : List UInt8 := putNum l.length ++ l

/-- what is read: an error, or what it is and the rest -/
inductive Res (α : Type) where
  | err (e : Int)
  | ok (x : α) (rest : List UInt8)

/-- a field's number of at most 'most' -/
def getNum (most : Nat) (l : List UInt8) : Res Nat :=
  match l with
  | [] => .err 2
  | k :: r =>
    if 8 < k.toNat then .err 3
    else if r.length < k.toNat then .err 2
    else if 0 < k.toNat ∧ r.getD 0 0 = 0 then .err 3
    else if most < be (r.take k.toNat) then .err 5
    else .ok (be (r.take k.toNat)) (r.drop k.toNat)

/-- so many bytes -/
def getTake (n : Nat) (l : List UInt8) : Res (List UInt8) :=
  if l.length < n then .err 2 else .ok (l.take n) (l.drop n)

def getText (most : Nat) (l : List UInt8) : Res (List UInt8) :=
  match getNum most l with
  | .err e => .err e
  | .ok n r => getTake n r

end Go.Proofs.Ytogcnfhmcpkdcaa
