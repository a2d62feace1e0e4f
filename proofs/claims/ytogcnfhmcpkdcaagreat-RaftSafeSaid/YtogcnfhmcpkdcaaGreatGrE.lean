/-
  Walks of a group: what a step is told (Pick), and what holds of a group that rests.
-/
import Derived.Test.YtogcnfhmcpkdcaaGreatGrD
import Derived.Test.YtogcnfhmcpkdcaaGreatRaftN9
import Derived.Test.YtogcnfhmcpkdcaaGreatSfM
namespace Go.Proofs.YtogcnfhmcpkdcaaGreat
open Go.RowKit
set_option linter.unusedVariables false
set_option linter.unusedSimpArgs false
def pk (a : Int) (n : Nat) : Nat := if n = 0 then 0 else (a % (n : Int)).toNat
theorem pk_lt {a : Int} {n : Nat} (h : 0 < n) : pk a n < n := by
 unfold pk;rw [if_neg (by omega)];have h1 := Int.emod_lt_of_pos a (show (0 : Int) < n by omega);have h2 := Int.emod_nonneg a (show (n : Int) ≠ 0 by omega);omega
theorem r1PickZ (a : Int) (n : Nat) (hn : n ≤ 1000000) (w : World) : Calls Tryz.prog 58 #[.int .i64 a, .int .i64 n] w fun e w' => e = .returned (.int .i64 (pk a n : Nat)) ∧ w' = w := by
 obtain ⟨K, hK⟩ : ∃ K, K = pk a n := ⟨_, rfl⟩
 rw [← hK];have HK := Hh hK;clear hK;by_cases h0 : n = 0
 ·subst h0;have hz : K = 0 := HK.out;subst hz;go_enter Tryz.func58, Tryz.ntmps58
  go_wp2;go_ret;exact ⟨rfl, rfl⟩
 ·have t1 : decide ((n : Int) < 1) = false := by simp; omega
  have hn0 : ¬ ((n : Int) = 0) := by omega
  have hk : (K : Int) = a % (n : Int) := by
   have h1 := HK.out;unfold pk at h1;rw [if_neg h0] at h1;have h2 := Int.emod_nonneg a (show (n : Int) ≠ 0 by omega);omega
  obtain ⟨r, hr⟩ : ∃ r : Int, a.tmod (n : Int) = r := ⟨_, rfl⟩
  have hlt : K < n := by rw [HK.out]; exact pk_lt (by omega)
  have hrk : (0 ≤ r ∧ r = K) ∨ (r < 0 ∧ r + n = K) := by
   by_cases ha : 0 ≤ a
   ·left
    rw [Int.tmod_eq_emod_of_nonneg ha] at hr;omega
   ·have h9 : a.tmod (n : Int) = -((-a) % (n : Int)) := by
     have h8 : a.tmod (n : Int) = -((-a).tmod (n : Int)) := by rw [Int.neg_tmod]; omega
     rw [h8, Int.tmod_eq_emod_of_nonneg (by omega)]
    have h7 : a % (n : Int) = if (-a) % (n : Int) = 0 then 0 else (n : Int) - (-a) % (n : Int) := by
     have h6 : (a + (-a) % (n : Int)) % (n : Int) = 0 := by
      have h5 : a + (-a) % (n : Int) = (n : Int) * -((-a) / (n : Int)) := by
       have h4 := Int.emod_add_mul_ediv (-a) (n : Int);rw [Int.mul_neg]; omega
      rw [h5, Int.mul_emod_right]
     have h3 := Int.emod_nonneg (-a) (show (n : Int) ≠ 0 by omega);have h2 := Int.emod_lt_of_pos (-a) (show (0 : Int) < n by omega);split
     ·rename_i h1; rw [h1, Int.add_zero] at h6; exact h6
     ·rename_i h1
      have h0' : (a + (-a) % (n : Int)) % (n : Int) = (a % (n : Int) + (-a) % (n : Int)) % (n : Int) := by rw [Int.emod_add_emod]
      rw [h6] at h0';have ha0 := Int.emod_nonneg a (show (n : Int) ≠ 0 by omega);have ha1 := Int.emod_lt_of_pos a (show (0 : Int) < n by omega);obtain ⟨q, hq⟩ := Int.dvd_of_emod_eq_zero h0'.symm;have hq1 : q = 1 := by
       have hpos : 0 < (n : Int) * q := by rw [← hq]; omega
       have hlt2 : (n : Int) * q < n * 2 := by rw [← hq]; omega
       have hn1 : (0 : Int) < n := by omega
       have q0 : 0 < q := Int.pos_of_mul_pos_right hpos (by omega);have q2 : q < 2 := Int.lt_of_mul_lt_mul_left hlt2 (by omega);omega
      subst hq1;omega
    rw [h7] at hk;rw [h9] at hr;have h3 := Int.emod_nonneg (-a) (show (n : Int) ≠ 0 by omega);have h2 := Int.emod_lt_of_pos (-a) (show (0 : Int) < n by omega);split at hk <;> omega
  have wr : IntKind.i64.wrap r = r := IntWalk.i64_in _ (by omega);have wk : IntKind.i64.wrap (r + n) = r + n := IntWalk.i64_in _ (by omega);clear hk;rcases hrk with ⟨h1, h2⟩ | ⟨h1, h2⟩
  ·have t2 : decide (r < 0) = false := by simp; omega
   subst h2;clear wk;go_enter Tryz.func58, Tryz.ntmps58
   go_wp2;go_ret;exact ⟨rfl, rfl⟩
  ·have t2 : decide (r < 0) = true := by simp; omega
   rw [h2] at wk;clear h1;have H2 := Hh h2;go_enter Tryz.func58, Tryz.ntmps58
   go_wp2;go_ret;exact ⟨rfl, rfl⟩
section
variable {w w' w1 : World} {B g n c : Nat} {G : PGroup} {M : GMem} {i : Nat} {gh : Gh}
theorem SI.up (h : SI gh n c G) {c' : Nat} (hc : c ≤ c') : SI gh n c' G :=
 ⟨h.ok, Nat.le_trans h.cnt hc, h.sn, h.n1, h.n7, h.rsl, h.hdl, h.ntl, h.atl, h.right, h.ri, fun j R hd ns h1 h2 h3 => (by
  obtain ⟨h4, h5⟩ := h.st j R hd ns h1 h2 h3;exact ⟨h4, by omega⟩), h.bag, h.bagl, h.seen, h.wl, h.wh, h.led, Nat.le_trans h.ll hc⟩
inductive Rch (n : Nat) : Nat → PGroup → Prop
 | made : Rch n 0 (PGroup.made n)
 | up {k k' : Nat} {G : PGroup} : Rch n k G → k ≤ k' → Rch n k' G
 | tick {k i : Nat} {G : PGroup} {R : PRaft} : Rch n k G → G.rs[i]? = some R → Rch n (k + 1) (({ G with rs := G.rs.set i R.tick } : PGroup).coll i R.tick)
 | propose {k i : Nat} {G : PGroup} {R : PRaft} (b : List UInt8) : Rch n k G → G.rs[i]? = some R → Rch n (k + 4) (({ G with rs := G.rs.set i (R.propose b).1 } : PGroup).coll i (R.propose b).1)
 | idle {k i : Nat} {G : PGroup} {R : PRaft} : Rch n k G → G.rs[i]? = some R → Rch n k (G.coll i R)
 | handle {k i j : Nat} {G : PGroup} {R R' : PRaft} (f : Int) (x : PLet) : Rch n k G → G.rs[i]? = some R → G.rs[j]? = some R' → x.t ≤ R'.bt → rightL x = true → Rch n (k + 4) (({ G with rs := G.rs.set i (R.handle f x) } : PGroup).coll i (R.handle f x))
 | lost {k : Nat} {G : PGroup} (m : Nat) : Rch n k G → Rch n k { G with bag := G.bag.take m ++ G.bag.drop (m + 1) }
 | twice {k : Nat} {G : PGroup} {y : PMail} : Rch n k G → y ∈ G.bag → Rch n (k + 1) { G with bag := G.bag ++ [y] }
 | load {k i : Nat} {G : PGroup} {R : PRaft} : Rch n k G → G.rs[i]? = some R → Rch n k { G with rs := G.rs.set i R.bare.base, ats := G.ats.set i R.line.base }
 | compact {k i : Nat} {G : PGroup} {R : PRaft} (s h : List UInt8) : Rch n k G → G.rs[i]? = some R → Rch n k { G with rs := G.rs.set i (R.compact s).1, hd := G.hd.set i h, nt := G.nt.set i [] }
structure SIR (gh : Gh) (n c kk : Nat) (G : PGroup) : Prop extends SI gh n c G where
 rc : Rch n kk G
theorem SIR.up {kk : Nat} (h : SIR gh n c kk G) {c' k' : Nat} (hc : c ≤ c') (hk : kk ≤ k') : SIR gh n c' k' G := ⟨h.toSI.up hc, h.rc.up hk⟩
theorem SIR.tick {kk : Nat} {R : PRaft} (h : SIR gh n c kk G) (hc : c ≤ 2000) (hR : G.rs[i]? = some R) : Cw { G with rs := G.rs.set i R.tick } i n R.tick ∧ ∃ g', SIR g' n (c + 1) (kk + 1) (({ G with rs := G.rs.set i R.tick } : PGroup).coll i R.tick) := by
 obtain ⟨h1, g', h2⟩ := h.toSI.tick hc hR;exact ⟨h1, g', h2, .tick h.rc hR⟩
theorem SIR.propose {kk : Nat} {R : PRaft} (h : SIR gh n c kk G) (hc : c ≤ 2000) (hR : G.rs[i]? = some R) {b : List UInt8} (hb : b.length ≤ 50) : Cw { G with rs := G.rs.set i (R.propose b).1 } i n (R.propose b).1 ∧ ∃ g', SIR g' n (c + 1) (kk + 4) (({ G with rs := G.rs.set i (R.propose b).1 } : PGroup).coll i (R.propose b).1) := by
 obtain ⟨h1, g', h2⟩ := h.toSI.propose hc hR hb;exact ⟨h1, g', h2, .propose b h.rc hR⟩
theorem SIR.idle {kk : Nat} {R : PRaft} (h : SIR gh n c kk G) (hc : c ≤ 2000) (hR : G.rs[i]? = some R) : Cw G i n R ∧ ∃ g', SIR g' n (c + 1) kk (G.coll i R) := by
 obtain ⟨h1, g', h2⟩ := h.toSI.idle hc hR;exact ⟨h1, g', h2, .idle h.rc hR⟩
theorem SIR.without {kk : Nat} (h : SIR gh n c kk G) (k : Nat) : SIR gh n c kk { G with bag := G.bag.take k ++ G.bag.drop (k + 1) } := ⟨h.toSI.without k, .lost k h.rc⟩
theorem SIR.twice {kk : Nat} (h : SIR gh n c kk G) {y : PMail} (hy : y ∈ G.bag) (hl : G.bag.length < 2000) : SIR gh n c (kk + 1) { G with bag := G.bag ++ [y] } := ⟨h.toSI.twice hy hl, .twice h.rc hy⟩
theorem SIR.handle {kk : Nat} {R : PRaft} (h : SIR gh n c kk G) (hc : c ≤ 2000) (hR : G.rs[i]? = some R) {f : Nat} {x : PLet} (hl : Lt gh n f i x) : Cw { G with rs := G.rs.set i (R.handle f x) } i n (R.handle f x) ∧ ∃ g', SIR g' n (c + 1) (kk + 4) (({ G with rs := G.rs.set i (R.handle f x) } : PGroup).coll i (R.handle f x)) := by
 obtain ⟨h1, g', h2⟩ := h.toSI.handle hc hR hl;obtain ⟨R', hR'⟩ : ∃ R', G.rs[f]? = some R' := ⟨_, List.getElem?_eq_getElem (by rw [h.rsl]; exact hl.jn)⟩
 exact ⟨h1, g', h2, .handle f x h.rc hR hR' (by rw [(h.ri f R' hR').1.bt]; exact hl.t) hl.right⟩
theorem SIR.load {kk : Nat} {R : PRaft} (h : SIR gh n c kk G) (hR : G.rs[i]? = some R) : ∃ hd ns, G.hd[i]? = some hd ∧ G.nt[i]? = some ns ∧ ns.length ≤ 4097 * c ∧ loadP i n hd ns = some R.bare.base ∧ SIR gh n c kk { G with rs := G.rs.set i R.bare.base, ats := G.ats.set i R.line.base } := by
 obtain ⟨hd, ns, h1, h2, h3, h4, h5⟩ := h.toSI.load hR;exact ⟨hd, ns, h1, h2, h3, h4, h5, .load h.rc hR⟩
theorem SIR.compact {kk : Nat} {R : PRaft} (h : SIR gh n c kk G) (hc : c ≤ 2000) (hR : G.rs[i]? = some R) (hy : (R.compact (stOf R.applied.toNat)).2 = true) : (R.compact (stOf R.applied.toNat)).1.line.put.length ≤ 900000 ∧ (R.compact (stOf R.applied.toNat)).1.state.length ≤ 70000 ∧ SIR gh n c kk { G with rs := G.rs.set i (R.compact (stOf R.applied.toNat)).1, hd := G.hd.set i (R.compact (stOf R.applied.toNat)).1.head, nt := G.nt.set i [] } := by
 obtain ⟨h1, h2, h3⟩ := h.toSI.compact hc hR hy;exact ⟨h1, h2, h3, .compact _ _ h.rc hR⟩
structure Rest (w : World) (B g n c kk : Nat) (gh : Gh) (G : PGroup) (M : GMem) (ci : Nat) : Prop where
 si : SIR gh n c kk G
 gr : GrAt w B g ci G M
 em : ∀ q : Nat × RMem, M.ps[ci]? = some q → q.2.ps = []
def At9 (w : World) (B g n c kk : Nat) : Prop := ∃ gh G M ci, Rest w B g n c kk gh G M ci
theorem Rest.below {ci kk : Nat} (h : Rest w B g n c kk gh G M ci) (hb : Below w.heap.size w w') : Rest w' B g n c kk gh G M ci := ⟨h.si, h.gr.below hb, h.em⟩
theorem Rest.pl {ci kk : Nat} (h : Rest w B g n c kk gh G M ci) : M.ps.length = n := by rw [h.gr.rl, h.si.rsl]
theorem Rest.ml {ci kk : Nat} (h : Rest w B g n c kk gh G M ci) : M.ms.length = G.bag.length := by rw [← h.gr.ct.bq]; simp
theorem Rest.get {ci kk : Nat} (h : Rest w B g n c kk gh G M ci) {j : Nat} (hj : j < n) : ∃ R p N, G.rs[j]? = some R ∧ M.ps[j]? = some (p, N) ∧ RI gh n j R ∧ R.out = [] ∧ R.news = [] ∧ R.jumped = false ∧ R.commit = R.applied ∧ G.ats[j]? = some R.applied ∧ GrAt w B g j G M := by
 obtain ⟨R, hR⟩ : ∃ R, G.rs[j]? = some R := ⟨_, List.getElem?_eq_getElem (by rw [h.si.rsl]; exact hj)⟩
 obtain ⟨q, hq⟩ : ∃ q, M.ps[j]? = some q := ⟨_, List.getElem?_eq_getElem (by rw [h.pl]; exact hj)⟩
 obtain ⟨h1, h2, h3, h4, h5, h6⟩ := h.si.ri j R hR;exact ⟨R, q.1, q.2, hR, hq, h1, h2, h3, h4, h5, h6, h.gr.cur h.em j⟩
end
end Go.Proofs.YtogcnfhmcpkdcaaGreat
