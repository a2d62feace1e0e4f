/-
  Contract of Line.Join: the walk.
-/
import Derived.Test.YtogcnfhmcpkdcaaGreatLineM9
import Derived.Deep.DeepCutAuto
import Derived.WalkMore
namespace Go.Proofs.YtogcnfhmcpkdcaaGreat
open Go.RowKit
set_option linter.unusedVariables false
set_option linter.unusedSimpArgs false
theorem wayJ {G : World → Nat → Option Addr → Nat → Prop} {P : Prop} (F : World → Nat → Option Addr → Nat → Prop) (main : (∀ U n a c, F U n a c → G U n a c) → P) (key : ∀ U n a c, F U n a c → G U n a c) : P := main key
def JoinTo (base p : Nat) (E : PLine × Int × Bool) (o : Option Nat) (w : World) (e : Ending) (w' : World) : Prop := e = .returned (.tuple #[.int .i64 E.2.1, .bool E.2.2]) ∧ LineTo base p E.1 o w w'
set_option maxRecDepth 100000 in
set_option maxHeartbeats 16000000 in
theorem lineJoin (base p : Nat) (x : PLine) (hg : x.Good) (la : Option Addr) (lc : Nat) (ms : List MItem) (prev term : Int) (js : List MItem) (ja : Option Addr) (jc : Nat) (w : World) (h : LnAt w base p x la lc ms) (hj : ItemsAt w w.heap.size ja js.length jc js) (hjn : js.length ≤ 100000)
  (hne : 0 < js.length → ∀ ad, ja = some ad → ad.block ≠ p) (hbase : base ≤ w.heap.size) :
  Calls Tryz.prog 82 #[.pointer (some ⟨p, 0, none⟩), .int .i64 prev, .int .i64 term, .slice ja js.length jc] w (JoinTo base p (x.join prev term (js.map MItem.it)) (Value.slice la ms.length lc).ownBlock w) := by
 obtain ⟨i0, hi, hz0, hz1, hz2⟩ := info_parts infoItem3;have hpl := h.lt;have hl := h.len;have h1 := hg.n1;have hb0 := hg.b0;have hb1 := hg.b1;have h2 := hg.n2;have hn4 : (ms.length : Int) ≤ 4096 := by omega
 have H := Hh h;have HJ := Hh hj;have HNE := Hh hne;have hlastd : x.last = x.base + (x.l.length : Int) := rfl;obtain ⟨E, hE⟩ : ∃ E, E = x.join prev term (js.map MItem.it) := ⟨_, rfl⟩
 rw [← hE];by_cases hp0 : prev < 0
 ·have hE2 : E = (x, 0, false) := by rw [hE, PLine.join, if_pos (.inl hp0)]
  subst hE2;have t1 : decide (prev < 0) = true := by simpa using hp0
  clear hE h hj hl h1 h2 hlastd hne;go_enter Tryz.func82, Tryz.ntmps82
  go_wp2_with fail;go_step3;go_wp2;(try rw [Exit.noGoto_ret]);go_ret2;exact ⟨rfl, LineTo.same H.out (Below.refl _ _)⟩
 ·have t1 : decide (prev < 0) = false := by simpa using hp0
  obtain ⟨L, hL⟩ : ∃ L, x.last = L := ⟨_, rfl⟩
  have HL := Hh hL;by_cases hpl2 : L < prev
  ·have t2 : decide (L < prev) = true := by simpa using hpl2
   have hE2 : E = (x, 0, false) := by rw [hE, PLine.join, if_pos (.inr (.inl (by rw [hL]; exact hpl2)))]
   subst hE2;clear hE h hj hl h1 h2 hlastd hne hL;go_enter Tryz.func82, Tryz.ntmps82
   go_wp2_with fail;go_step3;go_wp2_with fail;refine (linelast base p x hg la lc ms _ H.out).mono ?_;rintro e w1 ⟨rfl, m1, rfl⟩;rw [HL.out];go_wp2;(try rw [Exit.noGoto_ret]);go_ret2;exact ⟨rfl, LineTo.same H.out (below_drewN _ _)⟩
  ·have t2 : decide (L < prev) = false := by simp; omega
   obtain ⟨bad, hbad⟩ : ∃ bad, anyBad js = bad := ⟨_, rfl⟩
   have HBAD := Hh hbad;cases bad with
   | true =>
    have hE2 : E = (x, 0, false) := by rw [hE, PLine.join, if_pos (.inr (.inr (by rw [anyBad_map, hbad])))]
    subst hE2;clear hE h hj hl h1 h2 hlastd hne hL hbad;go_enter Tryz.func82, Tryz.ntmps82
    go_wp2_with fail;go_step3;go_wp2_with fail;refine (linelast base p x hg la lc ms _ H.out).mono ?_;rintro e w1 ⟨rfl, m1, rfl⟩;rw [HL.out];have HJ1 := Hh (HJ.out.below (below_drewN w m1) (Nat.le_refl _));go_wp2_with fail;refine (containsItems js ja js.length jc _ hjn HJ1.out).mono ?_;rintro e w2 ⟨rfl, hb2⟩;rw [HBAD.out];have HB2 := Hh ((below_drewN w m1).trans hb2);clear hb2;go_wp2;(try rw [Exit.noGoto_ret]);go_ret2;exact ⟨rfl, LineTo.same H.out HB2.out⟩
   | false =>
    have hE3 : E = if x.base ≤ prev ∧ x.tm prev ≠ term then (x, 0, false) else match x.diff (prev + 1) (js.map MItem.it) with
      | none => (x, 0, true)
      | some (i, r) => if fitsB x (i - x.base - 1 + r.length) = true then (⟨x.base, x.term, x.l.take (i - x.base - 1).toNat ++ r⟩, i, true) else (x, 0, false) := by
     rw [hE, PLine.join, if_neg (by rw [anyBad_map, hbad, hL]; simp; omega)]; rfl
    have htg := hg.tm_ge prev;rw [hL] at htg;by_cases hmis : x.base ≤ prev ∧ x.tm prev ≠ term
    ·rw [if_pos hmis] at hE3;subst hE3;have htm : tmIs x prev = (x.tm prev, true) := by unfold tmIs; rw [if_pos (htg.2 ⟨hmis.1, by omega⟩)]
     have t3 : (x.tm prev != term) = true := by simpa using hmis.2
     have HTM := Hh htm;clear hE h hj hl h1 h2 hlastd hne hL hbad htm htg hmis;go_enter Tryz.func82, Tryz.ntmps82
     go_wp2_with fail;go_step3;go_wp2_with fail;refine (linelast base p x hg la lc ms _ H.out).mono ?_;rintro e w1 ⟨rfl, m1, rfl⟩;rw [HL.out];have HJ1 := Hh (HJ.out.below (below_drewN w m1) (Nat.le_refl _));go_wp2_with fail;refine (containsItems js ja js.length jc _ hjn HJ1.out).mono ?_;rintro e w2 ⟨rfl, hb2⟩;rw [HBAD.out];have HB2 := Hh ((below_drewN w m1).trans hb2);have H2 := Hh (H.out.below HB2.out);clear hb2;go_wp2_with fail;refine (lineTerm base p x hg la lc ms prev _ H2.out).mono ?_;rintro e w3 ⟨rfl, m3, rfl⟩;rw [HTM.out];go_wp2;(try rw [Exit.noGoto_ret]);go_ret2;exact ⟨rfl, LineTo.same H.out (HB2.out.trans ((below_drewN _ m3).mono HB2.out.size))⟩
    ·rw [if_neg hmis] at hE3;obtain ⟨tt, tb, htm, htb⟩ : ∃ tt tb, tmIs x prev = (tt, tb) ∧ (tb = true → (tt != term) = false) := by
      refine ⟨(tmIs x prev).1, (tmIs x prev).2, rfl, fun h9 => ?_⟩;unfold tmIs at h9 ⊢;by_cases h10 : 0 ≤ x.tm prev
      ·rw [if_pos h10];have h11 : x.tm prev = term := by
        by_cases h12 : x.tm prev = term
        ·exact h12
        ·exact absurd ⟨(htg.1 h10).1, h12⟩ hmis
       simpa using h11
      ·rw [if_neg h10] at h9; cases h9
     have HTM := Hh htm;have HE3 := Hh hE3;have HI0 := Hh (show ∀ W, Below w.heap.size w W → JoinAt x prev js w p W 0 js ja jc from fun W hb => ⟨by omega, rfl, by rw [hL]; omega, by simp, hj.below hb (Nat.le_refl _), hne, hb⟩);have hLb : L = x.base + (ms.length : Int) := by omega
     have HLB := Hh hLb;have hLm : L ≤ 1099511627776 := by omega
     have hLb0 : x.base ≤ L := by omega
     clear hE h hj hl h1 h2 hlastd hne hL hbad htm htg hmis hE3 hLb;go_enter Tryz.func82, Tryz.ntmps82
     go_wp2_with fail;go_step3;go_wp2_with fail;refine (linelast base p x hg la lc ms _ H.out).mono ?_;rintro e w1 ⟨rfl, m1, rfl⟩;rw [HL.out];have HJ1 := Hh (HJ.out.below (below_drewN w m1) (Nat.le_refl _));go_wp2_with fail;refine (containsItems js ja js.length jc _ hjn HJ1.out).mono ?_;rintro e w2 ⟨rfl, hb2⟩;rw [HBAD.out];have HB2 := Hh ((below_drewN w m1).trans hb2);have H2 := Hh (H.out.below HB2.out);clear hb2;go_wp2_with fail;refine (lineTerm base p x hg la lc ms prev _ H2.out).mono ?_;rintro e w3 ⟨rfl, m3, rfl⟩;rw [HTM.out];have HB3 := Hh (HB2.out.trans ((below_drewN _ m3).mono HB2.out.size));go_upto_region 4 with fail
     go_cut [41] from 36 to 41 (fun s41 wx => s41 = .bool false ∧ wx = w2.drewN m3)
     case first =>
      cases tb
      ·go_wp2_with fail;go_meet;exact ⟨rfl, rfl⟩
      ·have htb9 := htb rfl;go_wp2_with fail;go_meet;exact ⟨rfl, rfl⟩
     case rest =>
      obtain ⟨rfl, rfl⟩ := hcut;clear htb;go_wp2_with fail;go_step3;go_wp2_with fail;go_loopw [3, 12] (fun rv av wr => ∃ (k : Nat) (r : List MItem) (a' : Option Addr) (c' : Nat), rv = .slice a' r.length c' ∧ av = .int .i64 (prev + 1 + (k : Int)) ∧ JoinAt x prev js w p wr k r a' c')
       (fun rv _ _ => (match rv with | .slice _ n _ => n | _ => 0))
      case atStart => exact ⟨0, js, ja, jc, rfl, by simp, HI0.out _ HB3.out⟩
      case round =>
       obtain ⟨k, r, a', c', rfl, rfl, hI⟩ := hrel;have HI := Hh hI;have hub := hI.ub;rw [HL.out] at hub;have hkn := hI.le;clear hI;have hbw := HI.out.bel;have HLN := Hh (H.out.below hbw);obtain ⟨d0, d1, d2, -⟩ := HLN.out.cells;clear hbw d1;obtain ⟨at_, hat⟩ : ∃ at_ : Int, at_ = prev + 1 + (k : Int) := ⟨_, rfl⟩
       have hat2 : at_ ≤ L + 1 := by omega
       have hat0 : 0 < at_ := by omega
       rw [← hat];have HAT := Hh hat;cases r with
       | nil =>
        have hE4 : E = (x, 0, true) := by rw [HE3.out, HI.out.df]; rfl
        subst hE4;clear hat d0 d2;go_wp2;(try rw [Exit.noGoto_ret]);go_ret2;exact ⟨rfl, LineTo.same H.out HI.out.bel⟩
       | cons m0 r1 =>
        obtain ⟨b, o, ha', hb, e0, e1⟩ := HI.out.its.cell (i := 0) (m := m0) rfl;have hmn : m0.n = m0.b.length := ((HI.out.its.bs m0 (by simp)).hlen).symm;have hm0 : m0 ∈ js := by
         have h9 := HI.out.hr;exact List.mem_of_mem_drop (by rw [← h9]; simp)
        have hr0 := (rightI_iff _).1 (anyBad_get HBAD.out hm0);have hmt : 0 ≤ m0.t := hr0.1;subst ha';have k0 : wr.cell? ⟨b, o, none⟩ = some (.int .i64 m0.t) := by simpa using e0
        have htga := hg.tm_ge at_;rw [HL.out] at htga;have tl : decide (0 < (m0 :: r1).length) = true := by simp
        obtain ⟨n1, hn1⟩ : ∃ n1, n1 = (m0 :: r1).length := ⟨_, rfl⟩
        have hn1p : n1 = r1.length + 1 := by rw [hn1]; simp
        have tl : decide (0 < n1) = true := by simp; omega
        rw [← hn1];have HN1 := Hh hn1;have hr1b : r1.length + 1 ≤ 100000 := by
         have h9 := congrArg List.length HI.out.hr;simp at h9;omega
        have hrun : ∀ w' : World, (Instr.slice 30 (.slice (some ⟨b, o, none⟩) n1 c') (some (.int .i64 1)) none none).run Tryz.prog w' = .ok (.slice (if c' = 1 then some ⟨b, o, none⟩ else (some (⟨b, o, none⟩ : Addr)).map (·.add (1 * 2))) r1.length (c' - 1)) w' := fun w' => by
         have h9 := run_from Tryz.underlying30 infoItem (some ⟨b, o, none⟩) n1 c' .i64 1 (by omega) w';rw [show n1 - 1 = r1.length by omega] at h9;exact h9
        obtain ⟨sa, hsa⟩ : ∃ sa, sa = (if c' = 1 then some ⟨b, o, none⟩ else (some (⟨b, o, none⟩ : Addr)).map (·.add (1 * 2))) := ⟨_, rfl⟩
        rw [← hsa] at hrun;have HSA := Hh hsa;have HST := Hh (show (at_ ≤ x.base ∨ x.tm at_ = m0.t) → JoinAt x prev js w p wr (k + 1) r1 sa (c' - 1) from fun h9 => by
         have h10 : at_ ≤ L := by
          rcases h9 with h9 | h9
          ·omega
          ·have := htga.1 (by omega); omega
         rw [hsa];exact HI.out.step (by rw [← hat]; exact h9) (by rw [← hat, HL.out]; exact h10))
        have HDF := Hh (show ¬ (at_ ≤ x.base ∨ x.tm at_ = m0.t) → x.diff (prev + 1) (js.map MItem.it) = some (at_, (m0 :: r1).map MItem.it) from fun h9 => by
         rw [HI.out.df, ← hat];exact PLine.diff_stop (by simp) (by simpa using h9))
        clear hat e0 e1 hr0 hsa hn1 hmn;by_cases hA : at_ ≤ x.base
        ·have tA : decide (at_ ≤ x.base) = true := by simpa using hA
         have HST2 := Hh (HST.out (.inl hA));obtain ⟨tt2, tb2, ht2⟩ : ∃ tt2 tb2, tmIs x at_ = (tt2, tb2) := ⟨_, _, rfl⟩
         have HT2 := Hh ht2;clear hA htga ht2;go_wp2_with fail;refine (lineTerm base p x hg la lc ms at_ _ HLN.out).mono ?_;rintro e w4 ⟨rfl, m4, rfl⟩;rw [HT2.out];have HST4 := Hh (HST2.out.below (below_drewN wr m4));go_wp2_with fail;go_quiet (fail)
         go_wp2;refine ⟨⟨k + 1, r1, _, _, rfl, congrArg (Value.int .i64) (by rw [HAT.out]; omega), ?_⟩, by show r1.length < n1; omega⟩;have h9 := HST4.out.below (below_drewN _ nq);rw [show sa = (if c' = 1 then some ⟨b, o, none⟩ else some ⟨b, o + 2, none⟩) from by rw [HSA.out]; split <;> simp [Addr.add_lit]] at h9;exact h9
        ·have tA : decide (at_ ≤ x.base) = false := by simpa using hA
         by_cases hB : x.tm at_ = m0.t
         ·have HST2 := Hh (HST.out (.inr hB));have ht2 : tmIs x at_ = (m0.t, true) := by unfold tmIs; rw [hB, if_pos hmt]
          have HT2 := Hh ht2;clear hA htga ht2 hB;go_wp2_with fail;refine (lineTerm base p x hg la lc ms at_ _ HLN.out).mono ?_;rintro e w4 ⟨rfl, m4, rfl⟩;rw [HT2.out];have HST4 := Hh (HST2.out.below (below_drewN wr m4));go_wp2_with fail;go_quiet (fail)
          go_wp2;refine ⟨⟨k + 1, r1, _, _, rfl, congrArg (Value.int .i64) (by rw [HAT.out]; omega), ?_⟩, by show r1.length < n1; omega⟩;have h9 := HST4.out.below (below_drewN _ nq);rw [show sa = (if c' = 1 then some ⟨b, o, none⟩ else some ⟨b, o + 2, none⟩) from by rw [HSA.out]; split <;> simp [Addr.add_lit]] at h9;exact h9
         ·have HD2 := Hh (HDF.out (by omega));obtain ⟨tt2, tb2, ht2, htb2⟩ : ∃ tt2 tb2, tmIs x at_ = (tt2, tb2) ∧ (tb2 = true → (tt2 == m0.t) = false) := by
           refine ⟨(tmIs x at_).1, (tmIs x at_).2, rfl, fun h9 => ?_⟩;unfold tmIs at h9 ⊢;by_cases h10 : 0 ≤ x.tm at_
           ·rw [if_pos h10]; simpa using hB
           ·rw [if_neg h10] at h9; cases h9
          have HT2 := Hh ht2;have hatb : x.base < at_ := by omega
          clear hA htga ht2 hB;go_wp2_with fail;refine (lineTerm base p x hg la lc ms at_ _ HLN.out).mono ?_;rintro e w4 ⟨rfl, m4, rfl⟩;rw [HT2.out];have HI4 := Hh (HI.out.below (below_drewN wr m4));have HLN4 := Hh (HLN.out.drewN m4);clear hrun;obtain ⟨kp, hkp⟩ : ∃ kp : Nat, (kp : Int) = at_ - x.base - 1 := ⟨(at_ - x.base - 1).toNat, by omega⟩
          have hlb9 := HLB.out;have hkm : kp ≤ ms.length := by omega
          have hlc := HLN4.out.sl.sl.hle;have hrunu : ∀ w' : World, (Instr.slice 30 (.slice la ms.length lc) none (some (.int .i64 (at_ - x.base - 1))) none).run Tryz.prog w' = .ok (.slice la kp lc) w' := fun w' => by
           have h9 := run_upto Tryz.underlying30 infoItem la ms.length lc .i64 kp (by omega) w';rw [hkp] at h9;exact h9
          obtain ⟨f, hf⟩ : ∃ f, fitsB x (at_ - x.base - 1 + ((r1.length : Int) + 1)) = f := ⟨_, rfl⟩
          have HFB := Hh hf;have HKP := Hh hkp;have HE4 := Hh (show E = if fitsB x (at_ - x.base - 1 + ((r1.length : Int) + 1)) = true then (⟨x.base, x.term, x.l.take kp ++ (m0 :: r1).map MItem.it⟩, at_, true) else (x, 0, false) by
           rw [HE3.out, HD2.out];simp only [List.length_map, List.length_cons];rw [show (at_ - x.base - 1).toNat = kp by omega];push_cast;rfl)
          clear hf hkp hlb9;go_upto_region 10 with fail
          go_cut [57] from 57 to 74 (fun s57 wx => s57 = .bool false ∧ wx = wr.drewN m4)
          case first =>
           cases tb2
           ·go_wp2_with fail;go_meet;exact ⟨rfl, rfl⟩
           ·have htb3 := htb2 rfl;go_wp2_with fail;go_meet;exact ⟨rfl, rfl⟩
          case rest =>
           obtain ⟨rfl, rfl⟩ := hcut;clear htb2;go_wp2_with fail;refine (lineFits base p x hb0 hb1 la lc ms _ _ HLN4.out).mono ?_;rintro e w5 ⟨rfl, rfl⟩;rw [HFB.out];cases f with
           | false =>
            have hE5 : E = (x, 0, false) := by rw [HE4.out, HFB.out]; rfl
            subst hE5;clear d0 d2 hrunu;go_wp2;(try rw [Exit.noGoto_ret]);go_ret2;exact ⟨rfl, LineTo.same H.out HI4.out.bel⟩
           | true =>
            have hE5 : E = (⟨x.base, x.term, x.l.take kp ++ (m0 :: r1).map MItem.it⟩, at_, true) := by rw [HE4.out, HFB.out]; rfl
            subst hE5;have hsl6 := HLN4.out.sl.sl.upto (k := kp) (m := lc) hkm (by omega) (Nat.le_refl _);rw [cellsM_take] at hsl6;have HSL6 := Hh hsl6;have HBE4 := Hh HI4.out.bel;have hsz4 := HI4.out.bel.size;clear hsl6;go_wp2_with fail;refine (cloneItems (cellsM (ms.take kp)) (cellsM_one _) la kp lc (by omega) _ HSL6.out).mono ?_;rintro e w6 ⟨a6, c6, rfl, hown6, hb6⟩;have hs6 : (wr.drewN m4).heap.size ≤ w6.heap.size := hb6.size;have hs6' : wr.heap.size ≤ w6.heap.size := hs6;have HLN6 := Hh (HLN4.out.below hb6);have hne6 : (Value.slice a6 kp c6).ownBlock ≠ some p := fun e => by
             have h9 : (wr.drewN m4).heap.size ≤ p := (own_lt hown6 e).1;have h10 : (wr.drewN m4).heap.size = wr.heap.size := rfl;have h11 : w.heap.size ≤ wr.heap.size := hsz4;omega
            obtain ⟨hln7, hot7⟩ := HLN6.out.put (n6 := kp) (ms6 := ms.take kp) (by simp; omega) (World.ownsRow.mono hown6 (show base ≤ (wr.drewN m4).heap.size by
             have h11 : w.heap.size ≤ (wr.drewN m4).heap.size := hsz4;omega)) hne6 (fun m hm => HLN6.out.bs m (List.mem_of_mem_take hm))
            have hp6 : w6.cell? ⟨p, 2, none⟩ = some (.slice la ms.length lc) := HLN6.out.cells.2.2.1;have hf6 : w6.frozen? ⟨p, 2, none⟩ = false := HLN6.out.cells.2.2.2 2;have HTU7 := Hh (show Turned p none w (w6.setCell ⟨p, 2, none⟩ (.slice a6 kp c6)) from ⟨hb6.os.trans HBE4.out.os, hb6.tape.trans HBE4.out.tape, hb6.output.trans HBE4.out.output, by simp; have := HBE4.out.size; omega, fun k9 h8 h9 _ => (hot7 k9 h9).trans ((hb6.block k9 (Nat.lt_of_lt_of_le h8 hsz4)).trans (HBE4.out.block k9 h8))⟩);have HF0 := Hh (show FillAt x kp (m0 :: r1) w base p (some ⟨b, o, none⟩) c' (w6.setCell ⟨p, 2, none⟩ (.slice a6 kp c6)) 0 a6 c6 (ms.take kp) from by
             refine ⟨by omega, ?_, HTU7.out, fun g hg9 => ?_, ?_⟩
             ·rw [List.take_zero, List.map_nil, List.append_nil];have h9 := hln7;rw [List.map_take, H.out.its] at h9;exact h9
             ·rw [show (ms.take kp).length = kp by simp; omega] at hg9;have h9 : (wr.drewN m4).heap.size ≤ g := (own_lt hown6 hg9).1;have h11 : w.heap.size ≤ (wr.drewN m4).heap.size := hsz4;omega
             ·have h9 := HI4.out.its.below (hb6.mono (show w.heap.size ≤ (wr.drewN m4).heap.size from hsz4)) (Nat.le_refl _);exact h9.turned (fun k9 h8 hk9 => hot7 k9 hk9) (HI4.out.ne (by simp)) (fun z e => by cases e) HLN6.out.row)
            clear hln7 hot7 hown6 hb6 hne6 d0 d2 hrunu k0;go_wp2_with fail;obtain ⟨wo, rfl⟩ : ∃ wo : World, wo = wr := ⟨_, rfl⟩
            go_loopw [104] (fun iv wr => ∃ (i : Nat) (la2 : Option Addr) (lc2 : Nat) (ms2 : List MItem), iv = .int .i64 i ∧ FillAt x kp (m0 :: r1) w base p (some ⟨b, o, none⟩) c' wr i la2 lc2 ms2) (fun iv _ => r1.length + 1 - (intOf iv).toNat)
            case atStart => exact ⟨0, a6, c6, ms.take kp, rfl, HF0.out⟩
            case round =>
             obtain ⟨i, la2, lc2, ms2, rfl, hI2⟩ := hrel;have HI2 := Hh hI2;have hile := hI2.le;simp only [List.length_cons] at hile;have hwr := hI2.tu.size;have hpy := hI2.ln.lt;have hms2 : ms2.length ≤ 200000 := by
              have h9 := hI2.ln.len;simp only [List.length_append, List.length_map] at h9;have h10 := List.length_take_le kp x.l;have h11 := List.length_take_le i (m0 :: r1);omega
             clear hI2;by_cases hlt : i < r1.length + 1
             ·obtain ⟨mi, hmi⟩ : ∃ mi, (m0 :: r1)[i]? = some mi := ⟨_, List.getElem?_eq_getElem (by simpa using hlt)⟩
              obtain ⟨b9, o9, e9, hb9, k0, k1⟩ := HI2.out.its.cell hmi;injection e9 with e9
              injection e9 with e9 e10 _
              subst e9; subst e10;have hmem : mi ∈ m0 :: r1 := List.mem_of_getElem? hmi;have hbs9 := HI2.out.its.bs mi hmem;have hmn : mi.n = mi.b.length := hbs9.hlen.symm;have hmj : mi ∈ js := by
               have h9 := HI4.out.hr;exact List.mem_of_mem_drop (by rw [← h9]; exact hmem)
              have hbl : mi.b.length ≤ 8192 := ((rightI_iff _).1 (anyBad_get HBAD.out hmj)).2.2;rw [hmn] at k1;have c0 : wr.cell? ⟨b, o + i * 2, none⟩ = some (.int .i64 mi.t) := k0;have c1 : wr.cell? ⟨b, o + i * 2 + 1, none⟩ = some (.slice mi.a mi.b.length mi.c) := k1;have HBS9 := Hh (show BsAt wr wr.heap.size mi.a mi.b.length mi.c mi.b by rw [← hmn]; exact hbs9.mono hwr);have HMI := Hh hmi;have hi0 : (0 : Int) ≤ (i : Int) := by omega
              have hi1 : (i : Int) < (r1.length : Int) + 1 := by omega
              clear k0 k1 hmi hbs9 hmn hmem hmj;go_wp2;obtain ⟨Y, hY⟩ : ∃ Y, Y = wr.alloc (.cells #[.int .i64 mi.t, .slice mi.a mi.b.length mi.c] 40) := ⟨_, rfl⟩
              rw [← hY];have hbY : Below wr.heap.size wr Y := by rw [hY]; exact (Below.refl _ _).alloc (Nat.le_refl _) _
              have hsY : Y.heap.size = wr.heap.size + 1 := by rw [hY]; simp
              have HS := Hh (show AddS wr.heap.size mi.t mi.a mi.b.length mi.c Y from ⟨by rw [hY]; simp [go_sem], by rw [hY]; simp [go_sem]⟩);have HBY := Hh hbY;have HLNY := Hh (HI2.out.ln.below hbY);have C2 := Hh HLNY.out.cells.2.2.1;have p2y := C2.out;have HBS := Hh ((HBS9.out.below hbY (Nat.le_refl _)).mono (show wr.heap.size ≤ Y.heap.size by omega));clear hY hbY c0 c1;refine OpR (S := AddS (wr.heap.size) mi.t mi.a mi.b.length mi.c) ?_;have hS0 : AddS (wr.heap.size) mi.t mi.a mi.b.length mi.c Y.drew := HS.out.keep (N := Y.heap.size) (Below.refl _ _).drew (by omega);refine hT 0 108 hS0 ?_;refine hT 1 109 hS0 ?_;refine hT 2 110 hS0 ?_;refine hT 3 111 hS0 ?_;refine hT 5 113 hS0 ?_;have HS0 := Hh hS0;clear hS0;apply wayJ (fun A nb a3 c3 => AddS wr.heap.size mi.t mi.a mi.b.length mi.c A ∧ Below Y.heap.size Y A ∧ SlAt A (nb + 1) 2 (some ⟨nb, 0, none⟩) 1 1 [.int .i64 mi.t, .slice a3 mi.b.length c3] ∧ OwnBs 5 A ⟨mi.t, a3, mi.b.length, c3, mi.b⟩ ∧ A.heap.size = nb + 1)
              ·intro hway;refine Op2 4 6 ?_ ?_;rotate_left
               ·go_simp;refine (lineClone mi.t mi.a mi.c mi.b Y.drew (HBS.out.below (w' := Y.drew) (Below.refl _ _).drew (Nat.le_refl _))).mono ?_;rintro e y3 ⟨a3, c3, rfl, hown3, hb3⟩;have hs3 : Y.heap.size ≤ y3.heap.size := hb3.size;have hb13 : Below Y.heap.size Y y3 := (Below.refl _ Y).drew.trans hb3;have HS3 := Hh (HS.out.keep hb13 (by omega));have p2w : y3.cell? ⟨p, 2, none⟩ = some (.slice la2 ms2.length lc2) := (hb13.cell (p := ⟨p, 2, none⟩) (by show p < _; omega)).trans C2.out;obtain ⟨A, hA⟩ : ∃ A, A = y3.alloc (.cells #[.int .i64 mi.t, .slice a3 mi.b.length c3] 40) := ⟨_, rfl⟩
                have hbA : Below y3.heap.size y3 A := by rw [hA]; exact (Below.refl _ _).alloc (Nat.le_refl _) _
                have hsA : A.heap.size = y3.heap.size + 1 := by rw [hA]; simp
                have HSA := Hh (HS3.out.keep hbA (by omega));have p2A : A.cell? ⟨p, 2, none⟩ = some (.slice la2 ms2.length lc2) := (hbA.cell (p := ⟨p, 2, none⟩) (by show p < _; omega)).trans p2w;have hF := And.intro HSA.out (And.intro (hb13.trans (hbA.mono hs3)) (And.intro (show SlAt A (y3.heap.size + 1) 2 (some ⟨y3.heap.size, 0, none⟩) 1 1 [.int .i64 mi.t, .slice a3 mi.b.length c3] by rw [hA]; exact slAt_item y3 #[.int .i64 mi.t, .slice a3 mi.b.length c3] 40 2 rfl) (And.intro ((show OwnBs 5 y3 ⟨mi.t, a3, mi.b.length, c3, mi.b⟩ from OwnBs.of_own hown3 (by omega)).below hbA) hsA)));have HF := Hh hF;have HA := Hh hA;clear hb3 hb13 hown3 hF hA hbA hsA;refine ⟨HS3.out, ?_⟩;refine Op2 4 7 ?_ ?_
                ·go_simp;refine ⟨HS3.out, ?_⟩;refine Op1 7 ?_;go_simp;rw [← HA.out];refine ⟨HSA.out, ?_⟩;have hF := HF.out;generalize y3.heap.size = nb at hF ⊢;exact hway A nb a3 c3 hF
                ·go_simp;rw [← HA.out];refine ⟨HSA.out, ?_⟩;refine Op1 4 ?_;go_simp;refine ⟨HSA.out, ?_⟩;have hF := HF.out;generalize y3.heap.size = nb at hF ⊢;exact hway A nb a3 c3 hF
               ·go_simp;refine ⟨HS0.out, ?_⟩;refine Op1 6 ?_;go_simp;refine (lineClone mi.t mi.a mi.c mi.b Y.drew (HBS.out.below (w' := Y.drew) (Below.refl _ _).drew (Nat.le_refl _))).mono ?_;rintro e y3 ⟨a3, c3, rfl, hown3, hb3⟩;have hs3 : Y.heap.size ≤ y3.heap.size := hb3.size;have hb13 : Below Y.heap.size Y y3 := (Below.refl _ Y).drew.trans hb3;obtain ⟨A, hA⟩ : ∃ A, A = y3.alloc (.cells #[.int .i64 mi.t, .slice a3 mi.b.length c3] 40) := ⟨_, rfl⟩
                have hbA : Below y3.heap.size y3 A := by rw [hA]; exact (Below.refl _ _).alloc (Nat.le_refl _) _
                have hsA : A.heap.size = y3.heap.size + 1 := by rw [hA]; simp
                have HSA := Hh ((HS.out.keep hb13 (by omega)).keep hbA (by omega));have HS3 := Hh (HS.out.keep hb13 (by omega));have hF := And.intro HSA.out (And.intro (hb13.trans (hbA.mono hs3)) (And.intro (show SlAt A (y3.heap.size + 1) 2 (some ⟨y3.heap.size, 0, none⟩) 1 1 [.int .i64 mi.t, .slice a3 mi.b.length c3] by rw [hA]; exact slAt_item y3 #[.int .i64 mi.t, .slice a3 mi.b.length c3] 40 2 rfl) (And.intro ((show OwnBs 5 y3 ⟨mi.t, a3, mi.b.length, c3, mi.b⟩ from OwnBs.of_own hown3 (by omega)).below hbA) hsA)));have HF := Hh hF;have HA := Hh hA;clear hb3 hb13 hown3 hF hA hbA hsA;refine ⟨HS3.out, ?_⟩;refine Op1 7 ?_;go_simp;rw [← HA.out];refine ⟨HSA.out, ?_⟩;have hF := HF.out;generalize y3.heap.size = nb at hF ⊢;exact hway A nb a3 c3 hF
              rintro A nb a3 c3 ⟨hS1, hbYA, hslA, hmA, hsA⟩;have HSA := Hh hS1;have HBYA := Hh hbYA;have HSL := Hh hslA;have HMA := Hh hmA;have hs3 := hbYA.size;have HLA3 := Hh (HLNY.out.below hbYA);have p2A : A.cell? ⟨p, 2, none⟩ = some (.slice la2 ms2.length lc2) := (hbYA.cell (p := ⟨p, 2, none⟩) (by show p < _; omega)).trans C2.out;clear hS1 hbYA hslA hmA;refine Op1 8 ?_;refine wp_append_sl A (.tmp 112) (.tmp 115) 30 rfl base 40 i0 (.agg #[.int .i64 0, .slice none 0 0]) 2 32 Tryz.underlying30 hi hz0 hz1 hz2 rfl (by decide) (.slice la2 ms2.length lc2) ms2.length (cellsM ms2) rfl HLA3.out.own (nb + 1) (some ⟨nb, 0, none⟩) 1 1 [.int .i64 mi.t, .slice a3 mi.b.length c3] rfl HSL.out (by intro u hu; simp at hu; rcases hu with rfl | rfl <;> rfl) (by unfold maxLen; omega) (by omega) (by omega) ?_;intro a4 c4 y4 hown4 hgrow4 hat4;have hnp : (Value.slice la2 ms2.length lc2).ownBlock ≠ some p := HLNY.out.far ne_types.1;have hng : (Value.slice la2 ms2.length lc2).ownBlock ≠ some wr.heap.size := fun e => by have h9 := (own_lt HI2.out.ln.own e).2; omega
              have HS4 := Hh (HSA.out.far hgrow4 (by omega) hng);have p2d : y4.cell? ⟨p, 2, none⟩ = some (.slice la2 ms2.length lc2) := (hgrow4.cell_far ⟨p, 2, none⟩ (by show p < _; omega) (fun e => hnp e.symm)).trans p2A;have f2d : y4.frozen? ⟨p, 2, none⟩ = false := (hgrow4.frozen_far ⟨p, 2, none⟩ (by show p < _; omega) (fun e => hnp e.symm)).trans (HLA3.out.cells.2.2.2 2);obtain ⟨hln, htu⟩ := HLA3.out.append (m := ⟨mi.t, a3, mi.b.length, c3, mi.b⟩) HMA.out hown4 hgrow4 hat4;have HLN9 := Hh hln;have HTU9 := Hh (Turned.ofBelowThen HBYA.out htu);have HAT9 := Hh hat4;refine ⟨HS4.out, ?_⟩;clear hown4 hgrow4 hat4 hln htu hnp hng;refine hT 9 117 HS4.out ?_;refine hT 10 118 HS4.out ?_;refine Op1 11 ?_;refine wp_store_cell 30 (.tmp 118) (.tmp 116) rfl p 2 (.slice a4 (ms2.length + 1) c4) _ rfl rfl rfl infoItems1 p2d f2d ?_;refine ⟨HS4.out.set (by omega) _, OpE ?_⟩;clear p2d f2d p2A;have HFN := Hh (HI2.out.next (mx := ⟨mi.t, a3, mi.b.length, c3, mi.b⟩) HMI.out (Turned.ofBelowThen HBY.out HTU9.out) HLN9.out (show w.heap.size ≤ A.heap.size by omega) hwr HAT9.out (HI4.out.ne (by simp)));go_wp2;go_roundw
              case rel => exact ⟨i + 1, a4, c4, _, by go_num, HFN.out⟩
              case measure => simp [intOf]; omega
             ·have hi9 : i = r1.length + 1 := by omega
              subst hi9;have hln9 := HI2.out.ln;rw [show (m0 :: r1).take (r1.length + 1) = m0 :: r1 from List.take_of_length_le (by simp)] at hln9;have HLN9 := Hh hln9;clear hln9;go_wp2;(try rw [Exit.noGoto_ret]);go_ret2;exact ⟨rfl, la2, lc2, ms2, HLN9.out, ⟨HI2.out.tu.os, HI2.out.tu.tape, HI2.out.tu.output, HI2.out.tu.size, fun k8 h8 h9 _ => HI2.out.tu.block k8 h8 h9 (by simp)⟩, fun g hg9 => .inr (HI2.out.nw g hg9)⟩
end Go.Proofs.YtogcnfhmcpkdcaaGreat
