/-
  The plain law of rows of fields: what is written, what is read up to the first error. No program in sight.
-/
import Derived.Test.YtogcnfhmcpkdcaaGotLaw
namespace Go.Proofs.Ytogcnfhmcpkdcaa
open Go.RowKit
set_option linter.unusedVariables false
set_option linter.unusedSimpArgs false

/-- a field -/
structure PF where
  k : Int
  n : Nat
  t : List UInt8
  d : List UInt8

def PF.kd (f : PF) : Int := f.k % 3
theorem PF.kd_cases (f : PF) : f.kd = 0 ∨ f.kd = 1 ∨ f.kd = 2 := by unfold PF.kd; omega

def PF.put (f : PF) : List UInt8 := if f.kd = 0 then putNum f.n else if f.kd = 1 then putText f.t else f.d
def putF : List PF → List UInt8
  | [] => []
  | f :: fs => f.put ++ putF fs
theorem putF_append (a b : List PF) : putF (a ++ b) = putF a ++ putF b := by
  induction a with
  | nil => rfl
  | cons f a ih => simp [putF, ih]

/-- the next field, as the reference takes it -/
def PF.take (f : PF) (l : List UInt8) : PGot := takeP f.kd f.n l

/-- all that is read up to the first error; the error; what is left -/
def runF : List PF → List UInt8 → List PGot × Int × List UInt8
  | [], l => ([], 0, l)
  | f :: fs, l => if (f.take l).e = 0 then (f.take l :: (runF fs (f.take l).left).1, (runF fs (f.take l).left).2) else ([], (f.take l).e, [])

/-- no text's greatest length is beyond what is looked at -/
def OkF : List PF → List UInt8 → Prop
  | [], _ => True
  | f :: fs, l => (f.kd = 1 → f.n ≤ 1099511627776) ∧ ((f.take l).e = 0 → OkF fs (f.take l).left)

theorem take_left_bad (f : PF) (l : List UInt8) (h : (f.take l).e ≠ 0) : f.take l = .bad (f.take l).e := by
  unfold PF.take at *
  unfold takeP at *
  by_cases h2 : f.kd = 2
  · rw [if_pos h2] at h ⊢
    cases hg : getTake 32 l with
    | err x => rfl
    | ok d r => rw [hg] at h; exact absurd rfl h
  · rw [if_neg h2] at h ⊢
    by_cases h0 : f.kd = 0
    · rw [if_pos h0] at h ⊢
      cases hg : getNum f.n l with
      | err x => rfl
      | ok d r => rw [hg] at h; exact absurd rfl h
    · rw [if_neg h0] at h ⊢
      cases hg : getText f.n l with
      | err x => rfl
      | ok d r => rw [hg] at h; exact absurd rfl h

/-- the code of a whole reading -/
def codeF (fs : List PF) (l : List UInt8) : Int := if (runF fs l).2.1 = 0 then (if (runF fs l).2.2 = [] then 0 else 3) else (runF fs l).2.1
end Go.Proofs.Ytogcnfhmcpkdcaa
