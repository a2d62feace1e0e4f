/-
  Contract of Eye.Num: a number is read, or refused, as the plain law says.
  Contracts of Eye.Text, Eye.Id; of the closure that field.Read defers; of field.Read.
  Contracts of the reference's Bytes (are two texts the same), of Eye.Text.
-/
import Derived.Test.YtogcnfhmcpkdcaaGreatEyeM
import Derived.Laws.Bits64b
import Derived.Defers
import Derived.Recover
import Derived.Deep.Onto
namespace Go.Proofs.YtogcnfhmcpkdcaaGreat
open Go.RowKit
set_option linter.unusedVariables false
def EyeRead {α : Type} (q : Nat) (r : Res α) (w w' : World) (e : Ending) (is : α → Prop) : Prop :=
 But q w w' ∧ match r with
  | .err x => e = broke x
  | .ok v rest => is v ∧ EyeAt w' q rest
theorem be_snoc (l : List UInt8) (c : UInt8) : be (l ++ [c]) = be l * 256 + c.toNat := by simp [be]
theorem be_lt (l : List UInt8) : be l < 256 ^ l.length := by
 induction l using snocInd with
 | h0 => simp [be]
 | h1 l c ih =>
  rw [be_snoc]; simp [Nat.pow_succ];have := c.toNat_lt;omega
theorem or256 (v c : Nat) (hv : v < 2 ^ 56) (hc : c < 256) : bits BinOp.or IntKind.u64 ((v : Int) * 256) (c : Int) = ((v * 256 + c : Nat) : Int) := by
 rw [show (v : Int) * 256 = ((v * 256 : Nat) : Int) by omega, bits_or_u64_nat _ _ (by omega) (by omega)]
 congr 1
 rw [show v * 256 = 2 ^ 8 * v by omega, Nat.two_pow_add_eq_or_of_lt (by omega)]
set_option maxHeartbeats 2000000 in
theorem eyeNum (q most : Nat) (l : List UInt8) (w : World) (h : EyeAt w q l) :
  Calls Tryz.prog 96 #[.pointer (some ⟨q, 0, none⟩), .int .u64 most] w fun e w' => EyeRead q (getNum most l) w w' e fun v => e = .returned (.int .u64 v) := by
 cases l with
 | nil =>
  go_enter Tryz.func96, Tryz.ntmps96
  go_wp2_with fail;refine (eyeTake q 1 _ _ h).mono ?_;rintro e w1 ⟨hb, hno, -⟩;obtain rfl := hno (by simp);go_wp2;exact ⟨rfl, hb, rfl⟩
 | cons k r =>
  have hk8 := k.toNat_lt;obtain ⟨N, hN⟩ : ∃ N, N = getNum most (k :: r) := ⟨_, rfl⟩
  rw [← hN];have HN := Hh hN;clear hN;go_enter Tryz.func96, Tryz.ntmps96
  go_wp2_with fail;refine (eyeTake q 1 _ _ h).mono ?_;rintro e w1 ⟨hb, -, hyes⟩;obtain ⟨a, rfl, hbs, heye⟩ := hyes (by simp);simp only [List.drop_succ_cons, List.drop_zero, List.take_succ_cons, List.take_zero] at hbs heye;obtain ⟨b, o, rfl, hbb, hc⟩ := hbs.hat (by omega);have hc0 : w1.cell? ⟨b, o, none⟩ = some (.int .u8 (k.toNat : Int)) := by
   have h9 := hc 0 (by omega);rw [Nat.add_zero] at h9;exact h9
  clear hc hbs hyes;have HB := Hh hb;clear hb h;by_cases h8 : 8 < k.toNat
  ·have b1 : decide ((8 : Int) < (k.toNat : Int)) = true := by simp; omega
   have hN : N = .err 3 := by rw [HN.out]; simp [getNum, h8]
   subst hN;go_wp2_with fail;refine (eyeFail_no _ 3 (by decide) _).mono ?_;rintro e w2 ⟨rfl, rfl⟩;go_wp2;exact ⟨rfl, HB.out, rfl⟩
  ·have b1 : decide ((8 : Int) < (k.toNat : Int)) = false := by simp; omega
   go_wp2_with fail;refine (eyeTake q k.toNat _ _ heye).mono ?_;rintro e w2 ⟨hb2, hno, hyes⟩;have HB2 := Hh (HB.out.trans hb2);clear HB hb2;by_cases hsh : r.length < k.toNat
   ·obtain rfl := hno hsh;have hN : N = .err 2 := by rw [HN.out]; simp [getNum, h8, hsh]
    subst hN;go_wp2;exact ⟨rfl, HB2.out, rfl⟩
   ·obtain ⟨a2, rfl, hbs2, heye2⟩ := hyes (by omega);clear hno hyes;obtain ⟨K, hK⟩ : ∃ K, K = k.toNat := ⟨_, rfl⟩
    obtain ⟨rs, hrs⟩ : ∃ rs, rs = r.take k.toNat := ⟨_, rfl⟩
    have hN2 : N = if 0 < K ∧ rs.getD 0 0 = 0 then .err 3 else if most < be rs then .err 5 else .ok (be rs) (r.drop K) := by
     rw [HN.out, hK, hrs];simp only [getNum, h8, hsh, if_false];by_cases h0 : 0 < k.toNat
     ·rw [show (r.take k.toNat).getD 0 0 = r.getD 0 0 by simp [List.getD, List.getElem?_take_of_lt h0]]
     ·simp [h0]
    have HN2 := Hh hN2;have hlen := hbs2.hlen;rw [← hrs, ← hK] at hbs2;rw [← hrs, ← hK] at hlen;rw [← hK] at heye2;rw [← hK];have HE := Hh heye2;have h8' : K ≤ 8 := by omega
    clear hK hrs hN2 HN hc0 heye2 b1 h8 hsh hk8;go_wp2_with fail;go_loopw [6, 22] (fun v j wr => ∃ jj : Nat, jj ≤ K ∧ j = .int .i64 jj ∧ v = .int .u64 (be (rs.take jj) : Nat) ∧ wr = w2 ∧ (0 < jj → rs.getD 0 0 ≠ 0))
     (fun _ j _ => K - (intOf j).toNat)
    case atStart => exact ⟨0, by omega, rfl, rfl, rfl, fun h => absurd h (by omega)⟩
    case round =>
     obtain ⟨jj, hjj, rfl, rfl, rfl, hnz⟩ := hrel;by_cases hlt : jj < K
     ·obtain ⟨b3, o3, rfl, hb3, hc3⟩ := hbs2.hat (by omega);have hc4 := hc3 jj hlt;obtain ⟨c, hc⟩ : ∃ c, c = rs.getD jj 0 := ⟨_, rfl⟩
      rw [← hc] at hc4;have hsn : rs.take (jj + 1) = rs.take jj ++ [c] := by rw [hc, List.take_succ_eq_append_getElem (by omega)]; simp [List.getD, List.getElem?_eq_getElem (show jj < rs.length by omega)]
      have hbe : be (rs.take (jj + 1)) = be (rs.take jj) * 256 + c.toNat := by rw [hsn, be_snoc]
      have hvl := be_lt (rs.take jj);have hvl2 : be (rs.take jj) < 2 ^ 56 := by
       have h1 : (rs.take jj).length ≤ 7 := by simp; omega
       have h2 : (256 : Nat) ^ (rs.take jj).length ≤ 256 ^ 7 := Nat.pow_le_pow_right (by omega) h1;have h3 : (256 : Nat) ^ 7 = 2 ^ 56 := by decide
       omega
      obtain ⟨v, hv⟩ : ∃ v, v = be (rs.take jj) := ⟨_, rfl⟩
      rw [← hv] at hbe hvl2 ⊢;have hcl := c.toNat_lt;have HBE := Hh hbe;have HC := Hh hc;clear hvl hv hsn hc3 hbe hc;have hk0 : (0 : Int) ≤ (jj : Int) := by omega
      have hk1 : (jj : Int) < (K : Int) := by omega
      by_cases hj0 : jj = 0
      ·have t1 : ((jj : Int) == 0) = true := by simp; omega
       have HC0 : rs.getD 0 0 = c := by rw [HC.out, hj0]
       have HJ := Hh hj0;have HC1 := Hh HC0;clear HC0 hj0 hnz;by_cases hcz : c = 0
       ·have t2 : ((c.toNat : Int) == 0) = true := by rw [hcz]; rfl
        have hN : N = .err 3 := by rw [HN2.out, if_pos ⟨by omega, by rw [HC1.out, hcz]⟩]
        subst hN;have HCZ := Hh hcz;clear hcz;go_wp2_with fail;refine (eyeFail_no _ 3 (by decide) _).mono ?_;rintro e w3 ⟨rfl, rfl⟩;go_wp2;exact ⟨rfl, HB2.out, rfl⟩
       ·have t2 : ((c.toNat : Int) == 0) = false := by
         have : c.toNat ≠ 0 := fun e => hcz (UInt8.toNat_inj.1 e)
         simp; omega
        have HCZ := Hh hcz;clear hcz;go_wp2_with fail;go_roundw
        case rel => exact ⟨jj + 1, by omega, by go_num, by rw [HBE.out, or256 _ _ hvl2 (by omega)], trivial, fun _ => by rw [HC1.out]; exact HCZ.out⟩
        case measure => simp [intOf]; omega
      ·have t1 : ((jj : Int) == 0) = false := by simp; omega
       go_wp2_with fail;go_roundw
       case rel => exact ⟨jj + 1, by omega, by go_num, by rw [HBE.out, or256 _ _ hvl2 (by omega)], trivial, fun _ => hnz (by omega)⟩
       case measure => simp [intOf]; omega
     ·have hjK : jj = K := by omega
      subst hjK;have hrt : rs.take jj = rs := List.take_of_length_le (by omega);rw [hrt];by_cases hmo : most < be rs
      ·have t1 : decide ((most : Int) < (be rs : Int)) = true := by simp; omega
       have hN : N = .err 5 := by rw [HN2.out, if_neg (by rintro ⟨h1, h2⟩; exact hnz h1 h2), if_pos hmo]
       subst hN;go_wp2_with fail;refine (eyeFail_no _ 5 (by decide) _).mono ?_;rintro e w3 ⟨rfl, rfl⟩;go_wp2;exact ⟨rfl, HB2.out, rfl⟩
      ·have t1 : decide ((most : Int) < (be rs : Int)) = false := by simp; omega
       have hN : N = .ok (be rs) (r.drop jj) := by rw [HN2.out, if_neg (by rintro ⟨h1, h2⟩; exact hnz h1 h2), if_neg hmo]
       subst hN;go_wp2;go_ret;exact ⟨HB2.out, rfl, HE.out⟩
end Go.Proofs.YtogcnfhmcpkdcaaGreat
namespace Go.Proofs.YtogcnfhmcpkdcaaGreat
open Go.RowKit
set_option linter.unusedVariables false
theorem readIdle (rb : Nat) (w : World) :
  CallsD Tryz.prog 114 #[.pointer (some ⟨rb, 0, none⟩)] .returning w fun e u' w' => e = .returned (.tuple #[]) ∧ u' = .returning ∧ w = w' := by
 have q20 : ∀ w : World, (binOp BinOp.eql 20 .nilIface .nilIface).run Tryz.prog w = .ok (.bool true) w := fun _ => by kernel_rfl
 refine callsD_of_wpS Tryz.func114 rfl fun c₀ cs hu => ?_
 apply wpS_seq;apply wpS_region;simp [wpOpsS, go_sem, recoverD, hu, Tryz.ntmps114, Exit.thenS];apply wpS_seq;apply wpS_seq;apply wpS_region;simp [wpOpsS, go_sem, Exit.thenS, q20];refine wpS_cond (t := true) (by simp [Act.eval, Array.replicate]) ?_;simp only [if_true];refine wpS_of_wp (wp_ret ?_);cases c₀
 simp_all [bodyPostS, results, Tryz.results114, Exit.thenS]
set_option maxRecDepth 100000 in
theorem readCaught (rb : Nat) (x : Int) (v : Value) (w : World) (hrb : rb < w.heap.size) (hc : w.cell? ⟨rb, 0, none⟩ = some v) (hz : w.frozen? ⟨rb, 0, none⟩ = false) :
  CallsD Tryz.prog 114 #[.pointer (some ⟨rb, 0, none⟩)] (.panicking [{ v := .iface 149 (.agg #[.int .i64 x]), recovered := false }]) w fun e u' w' =>
   e = .returned (.tuple #[]) ∧ u' = .panicking [{ v := .iface 149 (.agg #[.int .i64 x]), recovered := true }] ∧ w'.cell? ⟨rb, 0, none⟩ = some (.int .i64 x) ∧ But rb w w' := by
 refine callsD_of_wpS Tryz.func114 rfl fun c₀ cs hu => ?_
 apply wpS_seq;apply wpS_region;simp [wpOpsS, go_sem, recoverD, hu, Tryz.ntmps114, Exit.thenS];apply wpS_seq;apply wpS_seq;apply wpS_region;simp [wpOpsS, go_sem, Exit.thenS];refine wpS_cond (t := false) (by simp [Act.eval, Array.replicate]) ?_;simp only [Bool.false_eq_true, if_false];refine wpS_of_wp (wp_skip ?_);simp only [Exit.thenS];refine wpS_of_wp ?_;have hta : ∀ (w : World) (v : Value), Sem.run Tryz.prog (Instr.typeAssert (.iface 149 v) 20 149 true) w = .ok (.tuple #[v, .bool true]) w := fun _ _ => by kernel_rfl
 simp [Array.replicate];go_wp2;refine ⟨rfl, _, rfl, .tuple #[], by simp [results, Tryz.results114, go_sem], rfl, rfl, ?_, ?_⟩
 ·exact (World.cell?_alloc_past _ _ _ (by simpa using hrb)).trans (World.cell?_setCell_same _ _ _ hc)
 ·exact (But.setCell _ _ _).trans (But.ofBelow (by simpa using hrb) ((Below.refl _ _).alloc (Nat.le_refl _) _))
def EyeLen (w : World) (q n : Nat) : Prop := q < w.heap.size ∧ ∃ a c, w.cell? ⟨q, 0, none⟩ = some (.slice a n c)
theorem EyeAt.len {w : World} {q : Nat} {l : List UInt8} (h : EyeAt w q l) : EyeLen w q l.length := by
 obtain ⟨hq, a, n, c, h1, _, h3⟩ := h;have := h3.hlen;subst this;exact ⟨hq, a, c, h1⟩
theorem eyeLeft' (q n : Nat) (w : World) (h : EyeLen w q n) :
  Calls Tryz.prog 115 #[.pointer (some ⟨q, 0, none⟩)] w fun e w' => e = .returned (.int .i64 n) ∧ w = w' := by
 obtain ⟨hq, a, c, hp⟩ := h;go_enter Tryz.func115, Tryz.ntmps115
 go_wp2;go_ret;exact ⟨rfl, rfl⟩
def Left (q : Nat) (e : Ending) (w' : World) (x : Int) : Prop :=
 (e = broke x ∧ x ≠ 0) ∨ (e = .returned (.tuple #[]) ∧ ∃ rest : List UInt8, EyeLen w' q rest.length ∧ x = if rest = [] then 0 else 3)
theorem enterOf {P : Program} {f : FuncId} {fn : Func} {c : Code} (hf : P.funcs[f]? = some fn) (hname : (fn.name == "runtime.NumGoroutine") = false) (hb : fn.body = some c) (args : Array Value) (w : World) :
  Sem.run P (callFunc f args) w = .ok (.enter f args) w := by
 have h1 : fn.name ≠ "runtime.NumGoroutine" := by simpa using hname
 simp [callFunc, hf, h1, hb]
theorem EyeAt.fresh {w : World} {a : Option Addr} {n c : Nat} {l : List UInt8} (h : BsAt w w.heap.size a n c l) (t : TypeId) : EyeAt (w.alloc (.cells #[.slice a n c] t)) w.heap.size l :=
 ⟨by simp, a, n, c, by simp [go_sem], by simp [go_sem], (h.below ((Below.refl _ w).alloc (Nat.le_refl _) _) (Nat.le_refl _)).mono (by simp)⟩
set_option maxHeartbeats 2000000 in
set_option maxRecDepth 100000 in
theorem fieldRead (l : List UInt8) (a : Option Addr) (n c : Nat) (f : FuncId) (hf : ∀ args w, Sem.run Tryz.prog (callFunc f args) w = .ok (.enter f args) w) (first cap : Array Value) (w : World) (h : BsAt w w.heap.size a n c l)
  (R : Nat → World → World → Int → Prop)
  (hdo : ∀ q w1, Below w.heap.size w w1 → w.heap.size < q → EyeAt w1 q l → Calls Tryz.prog f (first.push (.pointer (some ⟨q, 0, none⟩)) ++ cap) w1 fun e w' => w1.heap.size ≤ w'.heap.size ∧ (∀ k, w.heap.size ≤ k → k < w1.heap.size → k ≠ q → w'.heap[k]? = w1.heap[k]?) ∧ ∃ x, Left q e w' x ∧ R q w1 w' x) :
  Calls Tryz.prog 90 #[.slice a n c, .func (.func f) first cap] w fun e w2 => ∃ q w1 w' x rb, e = .returned (.int .i64 x) ∧ Below w.heap.size w w1 ∧ w.heap.size < q ∧ q < w1.heap.size ∧ w.heap.size ≤ rb ∧ rb < w1.heap.size ∧ rb ≠ q ∧ R q w1 w' x ∧ But rb w' w2 := by
 have hmf : ∀ (fn : Fn) (first cap : Array Value) (w : World), (Instr.makeFunc fn first cap).run Tryz.prog w = .ok (.func fn first cap) w := fun _ _ _ _ => rfl
 have HDO := Hh hdo;clear hdo;have hb0 : Below w.heap.size w (w.alloc (.cells #[.int .i64 0] 36)) := (Below.refl _ w).alloc (Nat.le_refl _) _;have h1 : BsAt (w.alloc (.cells #[.int .i64 0] 36)) (w.alloc (.cells #[.int .i64 0] 36)).heap.size a n c l := (h.below hb0 (Nat.le_refl _)).mono hb0.size;have HB0 := Hh hb0;have H1 := Hh h1;clear hb0 h1 h;go_enter_defers Tryz.func90, Tryz.ntmps90
 go_wp2_with fail;refine (cloneB l a n c _ H1.out).mono ?_;rintro e w1 ⟨a1, c1, rfl, hbs, hb1, -⟩;have hs1 : w.heap.size < w1.heap.size := by have := hb1.size; simp at this; omega
 have hr1 : w1.cell? ⟨w.heap.size, 0, none⟩ = some (.int .i64 0) := by rw [hb1.cell (p := ⟨w.heap.size, 0, none⟩) (by simp)]; simp [go_sem]
 have hr2 : w1.frozen? ⟨w.heap.size, 0, none⟩ = false := by rw [hb1.frozen (p := ⟨w.heap.size, 0, none⟩) (by simp)]; simp [go_sem]
 have hbel : Below w.heap.size w w1 := HB0.out.trans (hb1.mono (by simp));have heye := EyeAt.fresh hbs 151;have hbel1 : Below w.heap.size w (w1.alloc (.cells #[.slice a1 n c1] 151)) := hbel.trans ((Below.refl _ w1).alloc (by omega) _);have HBEL := Hh hbel1;clear hbel hb1 hbel1 hbs;have HR := Hh (HDO.out w1.heap.size _ HBEL.out hs1 heye);clear heye;go_wp2_with fail;refine HR.out.mono ?_;rintro e w2 ⟨hsz, hkeep, x, hleft, hR⟩;simp only [World.size_alloc] at hsz;have hblk : w2.heap[w.heap.size]? = w1.heap[w.heap.size]? := (hkeep w.heap.size (Nat.le_refl _) (by simp; omega) (by omega)).trans (Below.heap_alloc _ _ _ hs1);have hr3 : w2.cell? ⟨w.heap.size, 0, none⟩ = some (.int .i64 0) := (World.cell?_of_block hblk).trans hr1;have hr4 : w2.frozen? ⟨w.heap.size, 0, none⟩ = false := (World.frozen?_of_block hblk).trans hr2;have hs2 : w.heap.size < w2.heap.size := by omega
 have HRR := Hh hR;clear hkeep hblk hR hr1 hr2;rcases hleft with ⟨rfl, hx0⟩ | ⟨rfl, rest, heye, hx⟩
 ·have hx1 := Hh hx0;clear hx0;go_wp2_with fail;refine leaves_cons (f := 114) (args := #[.pointer (some ⟨w.heap.size, 0, none⟩)]) (by simp) (by simp [go_sem]) ?_;refine (readCaught w.heap.size x _ w2 hs2 hr3 hr4).mono ?_;rintro e u' w3 ⟨rfl, rfl, hc, hbut⟩;exact ⟨.int .i64 x, by simp [results, Tryz.results90, go_sem, hc], _, _, _, _, _, rfl, HBEL.out, hs1, by simp, Nat.le_refl _, by simp; omega, by omega, HRR.out, hbut⟩
 ·have HX := Hh hx;clear hx;go_wp2_with fail;refine (eyeLeft' _ _ _ heye).mono ?_;rintro e w3 ⟨rfl, rfl⟩;by_cases hre : rest = []
  ·have t1 : decide (0 < rest.length) = false := by simp [hre]
   have hx : x = 0 := by rw [HX.out, if_pos hre]
   subst hx;clear hre;go_wp2_with fail;refine leaves_cons (f := 114) (args := #[.pointer (some ⟨w.heap.size, 0, none⟩)]) (by simp) (by simp [go_sem]) ?_;refine (readIdle w.heap.size _).mono ?_;rintro e u' w3 ⟨rfl, rfl, rfl⟩;exact ⟨.int .i64 0, by simp [results, Tryz.results90, go_sem, World.cell?_setCell_same _ _ _ hr3], _, _, _, _, _, rfl, HBEL.out, hs1, by simp, Nat.le_refl _, by simp; omega, by omega, HRR.out, But.setCell _ _ _⟩
  ·have t1 : decide (0 < rest.length) = true := by
    cases rest with
    | nil => exact absurd rfl hre
    | cons y ys => simp
   have hx : x = 3 := by rw [HX.out, if_neg hre]
   subst hx;clear hre;go_wp2_with fail;refine leaves_cons (f := 114) (args := #[.pointer (some ⟨w.heap.size, 0, none⟩)]) (by simp) (by simp [go_sem]) ?_;refine (readIdle w.heap.size _).mono ?_;rintro e u' w3 ⟨rfl, rfl, rfl⟩;exact ⟨.int .i64 3, by simp [results, Tryz.results90, go_sem, World.cell?_setCell_same _ _ _ hr3], _, _, _, _, _, rfl, HBEL.out, hs1, by simp, Nat.le_refl _, by simp; omega, by omega, HRR.out, But.setCell _ _ _⟩
end Go.Proofs.YtogcnfhmcpkdcaaGreat
namespace Go.Proofs.YtogcnfhmcpkdcaaGreat
open Go.RowKit
set_option linter.unusedVariables false
theorem take_snocB (l : List UInt8) (k : Nat) (h : k < l.length) : l.take (k + 1) = l.take k ++ [l.getD k 0] := by
 rw [List.take_succ_eq_append_getElem h]; simp [List.getD, List.getElem?_eq_getElem h]
set_option maxHeartbeats 1000000 in
theorem r1Bytes (l m : List UInt8) (a a' : Option Addr) (n c n' c' : Nat) (w : World) (h : BsAt w w.heap.size a n c l) (h' : BsAt w w.heap.size a' n' c' m) :
  Calls Tryz.prog 19 #[.slice a n c, .slice a' n' c'] w fun e w' => e = .returned (.bool (decide (l = m))) ∧ Below w.heap.size w w' := by
 have hl := h.hlen;have hl' := h'.hlen;have hbg := h.hbig;obtain ⟨d, hd⟩ : ∃ d, d = decide (l = m) := ⟨_, rfl⟩
 rw [← hd];have HD := Hh hd;clear hd;by_cases hn : n = n'
 ·subst hn;have t1 : ((n : Int) != (n : Int)) = false := by simp
  go_enter Tryz.func19, Tryz.ntmps19
  go_wp2_with fail;go_loopw [5] (fun i wr => ∃ i' : Nat, i' ≤ n ∧ i = .int .i64 i' ∧ l.take i' = m.take i' ∧ Below w.heap.size w wr)
   (fun i _ => n - (intOf i).toNat)
  case atStart => exact ⟨0, by omega, rfl, rfl, Below.refl _ _⟩
  case round =>
   obtain ⟨i', hi', rfl, heq, hbel⟩ := hrel;by_cases hlt : i' < n
   ·obtain ⟨b, o, rfl, hb, hc⟩ := h.hat (by omega);obtain ⟨b', o', rfl, hb', hc'⟩ := h'.hat (by omega);obtain ⟨x, hx⟩ : ∃ x, x = l.getD i' 0 := ⟨_, rfl⟩
    obtain ⟨y, hy⟩ : ∃ y, y = m.getD i' 0 := ⟨_, rfl⟩
    have hcx : wr.cell? ⟨b, o + i', none⟩ = some (.int .u8 (x.toNat : Int)) := by rw [hx]; exact (hbel.cell (p := ⟨b, o + i', none⟩) hb).trans (hc i' hlt)
    have hcy : wr.cell? ⟨b', o' + i', none⟩ = some (.int .u8 (y.toNat : Int)) := by rw [hy]; exact (hbel.cell (p := ⟨b', o' + i', none⟩) hb').trans (hc' i' hlt)
    have s1 : l.take (i' + 1) = l.take i' ++ [x] := by rw [hx, take_snocB l i' (by omega)]
    have s2 : m.take (i' + 1) = m.take i' ++ [y] := by rw [hy, take_snocB m i' (by omega)]
    have S1 := Hh s1;have S2 := Hh s2;have HX := Hh hx;have HY := Hh hy;have HEQ := Hh heq;have HBEL := Hh hbel;clear hc hc' s1 s2 hx hy heq h h' hbel;have hk0 : (0 : Int) ≤ (i' : Int) := by omega
    have hk1 : (i' : Int) < (n : Int) := by omega
    by_cases hxy : x = y
    ·have t2 : ((x.toNat : Int) != (y.toNat : Int)) = false := by simp [hxy]
     have HXY := Hh hxy;clear hxy;go_wp2_with fail;go_quiet (fail)
     go_wp2;go_roundw
     case rel => exact ⟨i' + 1, by omega, by go_num, by rw [S1.out, S2.out, HEQ.out, HXY.out], below_drewN HBEL.out _⟩
     case measure => simp [intOf]; omega
    ·have t2 : ((x.toNat : Int) != (y.toNat : Int)) = true := by
      have : x.toNat ≠ y.toNat := fun e => hxy (UInt8.toNat_inj.1 e)
      simp; omega
     have hne : decide (l = m) = false := by
      simp; rintro rfl; exact hxy (by rw [HX.out, HY.out])
     have HNE := Hh hne;clear hne hxy;go_wp2_with fail;go_quiet (fail)
     go_wp2;go_ret;exact ⟨ret_bool (by rw [HD.out, HNE.out]), below_drewN HBEL.out _⟩
   ·have hin : i' = n := by omega
    have he : decide (l = m) = true := by
     rw [List.take_of_length_le (by omega), List.take_of_length_le (by omega)] at heq;simpa using heq
    have HE := Hh he;clear he heq;go_wp2;go_ret;exact ⟨ret_bool (by rw [HD.out, HE.out]), hbel⟩
 ·have t1 : ((n : Int) != (n' : Int)) = true := by simp; omega
  have hne : decide (l = m) = false := by
   simp; rintro rfl; omega
  have HNE := Hh hne;clear hne;go_enter Tryz.func19, Tryz.ntmps19
  go_wp2;go_ret;exact ⟨ret_bool (by rw [HD.out, HNE.out]), Below.refl _ _⟩
theorem getNum_le {most v : Nat} {l r : List UInt8} (h : getNum most l = .ok v r) : v ≤ most := by
 cases l with
 | nil => simp [getNum] at h
 | cons k t =>
  simp only [getNum] at h
  repeat' split at h
  all_goals first | (cases h; omega) | (cases h)
set_option maxHeartbeats 1000000 in
theorem eyeText (q most : Nat) (l : List UInt8) (w : World) (h : EyeAt w q l) (hm : most < 9223372036854775808) :
  Calls Tryz.prog 93 #[.pointer (some ⟨q, 0, none⟩), .int .i64 most] w fun e w' => EyeRead q (getText most l) w w' e fun v => ∃ a c, e = .returned (.slice a v.length c) ∧ BsAt w' w'.heap.size a v.length c v ∧ w'.ownsRow w.heap.size 5 1 (.slice a v.length c) v.length (v.map bv) := by
 obtain ⟨N, hN⟩ : ∃ N, N = getText most l := ⟨_, rfl⟩
 rw [← hN];have HN := Hh hN;have hq := h.1;clear hN;go_enter Tryz.func93, Tryz.ntmps93
 go_wp2_with fail;refine (eyeNum q most _ _ h).mono ?_;rintro e w1 ⟨hb, hr⟩;cases hg : getNum most l with
 | err x =>
  rw [hg] at hr;obtain rfl : e = broke x := hr;have hN : N = .err x := by rw [HN.out]; simp [getText, hg]
  subst hN;clear hg;go_wp2;exact ⟨rfl, hb, rfl⟩
 | ok v r =>
  rw [hg] at hr;obtain ⟨rfl, heye⟩ := hr;have hv := getNum_le hg;have hN : N = getTake v r := by rw [HN.out]; simp [getText, hg]
  have HN2 := Hh hN;have HB := Hh hb;clear hN hg HN h hb;go_wp2_with fail;refine (eyeTake q v _ _ heye).mono ?_;rintro e w2 ⟨hb2, hno, hyes⟩;by_cases hl : r.length < v
  ·obtain rfl := hno hl;have hN : N = .err 2 := by rw [HN2.out]; simp [getTake, hl]
   subst hN;clear hno hyes hl;go_wp2;exact ⟨rfl, HB.out.trans hb2, rfl⟩
  ·obtain ⟨a, rfl, hbs, heye2⟩ := hyes (by omega);have hN : N = .ok (r.take v) (r.drop v) := by rw [HN2.out]; simp [getTake, hl]
   subst hN;have hq2 : q < w2.heap.size := heye2.1;have hsz := Nat.le_trans HB.out.size hb2.size;have HB2 := Hh hb2;have HBS := Hh hbs;have HE := Hh heye2;have hlv : (r.take v).length = v := by simp; omega
   have HLV := Hh hlv;clear hno hyes hl hb2 hbs heye2 hlv heye;go_wp2_with fail;refine (cloneB _ a v v _ (HBS.out.mono (Nat.le_of_lt hq2))).mono ?_;rintro e w3 ⟨a3, c3, rfl, hbs3, hbel3, hown⟩;go_wp2;go_ret;refine ⟨(HB.out.trans HB2.out).trans (But.ofBelow hq2 hbel3), ⟨a3, c3, ?_, ?_, ?_⟩, HE.out.below hbel3⟩
   ·rw [HLV.out]; rfl
   ·rw [HLV.out]; exact hbs3
   ·rw [HLV.out]; exact World.ownsRow.mono hown (by omega)
end Go.Proofs.YtogcnfhmcpkdcaaGreat
