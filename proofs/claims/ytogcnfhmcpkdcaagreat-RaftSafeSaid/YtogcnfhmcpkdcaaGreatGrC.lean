/-
  What a group collects of a replica: what lasts, letters, what is handed out, who leads. No walk.
-/
import Derived.Test.YtogcnfhmcpkdcaaGreatGrU
import Derived.Test.YtogcnfhmcpkdcaaGreatLetPl
namespace Go.Proofs.YtogcnfhmcpkdcaaGreat
open Go.RowKit
set_option linter.unusedVariables false
set_option linter.unusedSimpArgs false
section
variable {G : PGroup} {i : Nat}
def PGroup.noted (G : PGroup) (i : Nat) (R : PRaft) : PGroup := { G with rs := G.rs.set i { R with news := [] }, nt := G.nt.set i ((G.nt.getD i []) ++ R.news) }
def PGroup.seenTo (G : PGroup) (i : Nat) (R : PRaft) (A : Nat) : PGroup :=
 { G with rs := G.rs.set i { R with applied := A }, ats := G.ats.set i A, seen := G.seen ++ (List.range (A - G.seen.length)).map (fun (m : Nat) => R.item ((G.seen.length + m + 1 : Nat) : Int)), wh := G.wh ++ List.replicate (A - G.seen.length) G.term }
theorem maxBt_ge (l : List PRaft) (t : Int) : t ≤ maxBt l t := by
 induction l generalizing t with
 | nil => exact Int.le_refl _
 | cons x l ih =>
  have h1 := ih (max t x.bt);show t ≤ maxBt l (max t x.bt);omega
theorem maxBt_mem {l : List PRaft} {t : Int} {R : PRaft} (h : R ∈ l) : R.bt ≤ maxBt l t := by
 induction l generalizing t with
 | nil => cases h
 | cons x l ih =>
  rcases List.mem_cons.1 h with e | e
  ·subst e;have h1 := maxBt_ge l (max t R.bt);show R.bt ≤ maxBt l (max t R.bt);omega
  ·exact ih e
theorem set_self {α : Type} {l : List α} {i : Nat} {x : α} (h : l[i]? = some x) : l.set i x = l := by
 obtain ⟨h8, h7⟩ := List.getElem?_eq_some_iff.1 h;rw [← h7]; exact List.set_getElem_self h8
theorem seenTo_start {R : PRaft} {A : Nat} (hR : G.rs[i]? = some R) (hA : R.applied = A) (ha : G.ats[i]? = some R.applied) (hs : A ≤ G.seen.length) : G.seenTo i R A = G := by
 unfold PGroup.seenTo;have e1 : ({ R with applied := (A : Int) } : PRaft) = R := by rw [← hA]
 rw [e1, set_self hR, ← hA, set_self ha, show A - G.seen.length = 0 by omega]
 simp
theorem maxBt_congr {l l' : List PRaft} (h : l.map (·.bt) = l'.map (·.bt)) (t : Int) : maxBt l t = maxBt l' t := by
 induction l generalizing l' t with
 | nil =>
  cases l' with
  | nil => rfl
  | cons y l' => simp at h
 | cons x l ih =>
  cases l' with
  | nil => simp at h
  | cons y l' =>
   simp at h;show maxBt l (max t x.bt) = maxBt l' (max t y.bt);rw [h.1];exact ih h.2 _
theorem term_set {R R' : PRaft} (hR : G.rs[i]? = some R) (hb : R'.bt = R.bt) (G' : PGroup) (hG : G'.rs = G.rs.set i R') : G'.term = G.term := by
 unfold PGroup.term;rw [hG];exact maxBt_congr (map_set_same (fun R : PRaft => R.bt) hR hb) 0
def PGroup.oneMore (G : PGroup) (i : Nat) (R : PRaft) (A : Nat) : PGroup :=
 { G.seenTo i R A with rs := (G.seenTo i R A).rs.set i { R with applied := (A : Int) + 1 }, ats := (G.seenTo i R A).ats.set i ((A : Int) + 1) }
theorem oneMore_old {R : PRaft} {A : Nat} (h : A < G.seen.length) : G.oneMore i R A = G.seenTo i R (A + 1) := by
 unfold PGroup.oneMore PGroup.seenTo;simp only [List.set_set, show A - G.seen.length = 0 by omega, show A + 1 - G.seen.length = 0 by omega]
 congr 1
theorem oneMore_new {R : PRaft} {A : Nat} (h : G.seen.length ≤ A) : { G.oneMore i R A with seen := (G.oneMore i R A).seen ++ [R.item ((A : Int) + 1)], wh := (G.oneMore i R A).wh ++ [G.term] } = G.seenTo i R (A + 1) := by
 unfold PGroup.oneMore PGroup.seenTo;have e : A + 1 - G.seen.length = (A - G.seen.length) + 1 := by omega
 simp only [List.set_set, e, List.range_succ, List.map_append, List.replicate_succ', List.append_assoc, List.map_cons, List.map_nil];have e2 : G.seen.length + (A - G.seen.length) + 1 = A + 1 := by omega
 rw [e2]
 congr 1
def atOf (s : List UInt8) : Int := ((s.getD 0 0).toNat * 256 + (s.getD 1 0).toNat : Nat)
def mailAdd (i : Nat) : List PMail → List PPost → List PMail
 | bag, [] => bag
 | bag, y :: l => mailAdd i (if bag.length < 2000 then bag ++ [((i : Int), y.1, putL y.2)] else bag) l
def PGroup.jumpd (G : PGroup) (i : Nat) (R : PRaft) : PGroup := if R.jumped = true then { G with rs := G.rs.set i R.jump.1, hd := G.hd.set i R.head, nt := G.nt.set i [], ats := G.ats.set i (atOf R.state) } else G
def PGroup.coll (G : PGroup) (i : Nat) (R : PRaft) : PGroup :=
 let R1 : PRaft := { R.jump.1 with news := [], out := [] }
 let G1 := (G.jumpd i R).noted i R.jump.1
 let G2 : PGroup := { G1 with bag := mailAdd i G1.bag R.out, rs := G1.rs.set i R1 }
 let G3 := G2.seenTo i R1 R.commit.toNat
 if R.role = 2 then G3.led1 R.bt i else G3
theorem jump_eq (R : PRaft) : R.jump.1 = { R with jumped := false, news := if R.jumped = true then [] else R.news } := by
 unfold PRaft.jump;cases h : R.jumped with
 | true => rw [if_pos rfl, if_pos rfl]
 | false =>
  rw [if_neg (by simp), if_neg (by simp), ← h]
structure Cw (G : PGroup) (i n : Nat) (R : PRaft) : Prop where
 hR : G.rs[i]? = some R
 rl : G.rs.length = n
 ok : R.Ok
 r : G.right = true
 j : R.jumped = true → R.state.length = 2
 pt : R.line.put.length ≤ 900000
 at_ : (G.jumpd i R).ats[i]? = some R.applied
 out : ∀ y ∈ R.out, rightL y.2 = true ∧ 0 ≤ y.1 ∧ y.1 < n ∧ y.1 ≠ i
 ol : R.out.length ≤ 1000
 nl : (G.nt.getD i []).length ≤ 10000000
 nw : R.news.length ≤ 10000000
 il : i < G.nt.length
 hl : i < G.hd.length
 ap : R.applied ≤ G.seen.length
 sl : G.seen.length ≤ 10000
 cm : R.commit ≤ 10000
 wl : G.wh.length = G.seen.length
 ag : ∀ (k : Nat) (x : PItem), G.seen[k]? = some x → R.applied ≤ k → (k : Int) < R.commit → R.item ((k + 1 : Nat) : Int) = x
 ll : G.led.length ≤ 10000
 ps : G.rs.length ≤ 7
 led : R.role = 2 → ∀ x ∈ G.led, x.1 = R.bt → x.2 = i
 seen : R.role = 2 → ∀ (k : Nat) (x : PItem) (t : Int), G.seen[k]? = some x → G.wh[k]? = some t → t < R.bt → R.line.base < (k : Int) + 1 → (k : Int) + 1 ≤ R.line.last ∧ R.item ((k : Int) + 1) = x
 bl : G.bag.length ≤ 2000
end
end Go.Proofs.YtogcnfhmcpkdcaaGreat
