/-
  The law VoteOne: whoever asks in whichever order, a replica votes for one alone in each term, and its term doesn't fall. No condition.
-/
import Derived.Test.YtogcnfhmcpkdcaaVote2
import Derived.Test.YtogcnfhmcpkdcaaOpenB
import Derived.StillTailTactics
import Derived.Deep.LoopGhost
import Derived.Deep.DeepCutAuto
import Derived.Deep.RegionHeld3
namespace Go.Proofs.Ytogcnfhmcpkdcaa
open Go.RowKit
set_option linter.unusedVariables false

/-- what the votes so far say of the ballot -/
def voted (bt bf : Int) (vs : List (Int × Int)) : Prop := ∀ p ∈ vs, p.1 ≤ bt ∧ (p.1 = bt → p.2 = bf ∧ 0 ≤ p.2)
def vcells (vs : List (Int × Int)) : List Value := vs.flatMap fun p => [.int .i64 p.1, .int .i64 p.2]

theorem vcells_length (vs : List (Int × Int)) : (vcells vs).length = vs.length * 2 := by
  induction vs with
  | nil => rfl
  | cons p vs ih =>
    have : vcells (p :: vs) = [.int .i64 p.1, .int .i64 p.2] ++ vcells vs := rfl
    rw [this]; simp [ih]; omega
theorem vcells_snoc (vs : List (Int × Int)) (p : Int × Int) : vcells (vs ++ [p]) = vcells vs ++ [.int .i64 p.1, .int .i64 p.2] := by simp [vcells]
theorem vcells_get (vs : List (Int × Int)) : ∀ k, (h : k < vs.length) → (vcells vs)[k * 2]? = some (.int .i64 vs[k].1) ∧ (vcells vs)[k * 2 + 1]? = some (.int .i64 vs[k].2) := by
  induction vs with
  | nil => intro k h; simp at h
  | cons p vs ih =>
    intro k h
    have e : vcells (p :: vs) = .int .i64 p.1 :: .int .i64 p.2 :: vcells vs := rfl
    rw [e]
    cases k with
    | zero => exact ⟨rfl, rfl⟩
    | succ k =>
      have := ih k (by simpa using h)
      rw [show (k + 1) * 2 = k * 2 + 1 + 1 from by omega]
      simpa using this

/-- a list of askings lies below B -/
def AsksAt (w : World) (B : Nat) (a : Option Addr) (n c : Nat) (l : List (Int × Int × Bool)) : Prop :=
  n = l.length ∧ n ≤ c ∧ c ≤ maxLen ∧ (0 < n → ∃ b o, a = some ⟨b, o, none⟩ ∧ b < B ∧ ∀ i (h : i < l.length), w.cell? ⟨b, o + i * 3, none⟩ = some (.int .i64 l[i].1) ∧ w.cell? ⟨b, o + i * 3 + 1, none⟩ = some (.int .i64 l[i].2.1) ∧ w.cell? ⟨b, o + i * 3 + 2, none⟩ = some (.bool l[i].2.2))

theorem infoB : (Try.prog.info? 128).map (fun i => (i.zero, i.size, i.bytes)) = some (some (.agg #[.int .i64 0, .int .i64 0]), 2, 16) := by kernel_rfl

/-- what the law holds in its own memory: the ballot b in its block, the votes in theirs -/
structure VB (w wc : World) (bt bf : Int) (v : Value) (vs : List (Int × Int)) : Prop where
  own : wc.ownsRow (w.heap.size + 1) 128 2 v vs.length (vcells vs)
  sz : w.heap.size < wc.heap.size
  c0 : wc.cell? ⟨w.heap.size, 0, none⟩ = some (.int .i64 bt)
  c1 : wc.cell? ⟨w.heap.size, 1, none⟩ = some (.int .i64 bf)
  fr : ∀ o, wc.frozen? ⟨w.heap.size, o, none⟩ = false
  bel : Below w.heap.size w wc

theorem ownsRow_below {w w' : World} {base e size n : Nat} {v : Value} {xs : List Value} (h : w.ownsRow base e size v n xs) (hb : Below w.heap.size w w') : w'.ownsRow base e size v n xs :=
  h.kept (row := none) ⟨hb.os, hb.tape, hb.output, hb.size, fun k hk _ => hb.block k hk⟩ (by cases v.ownBlock <;> simp)

theorem VB.later {w wc wd : World} {bt bf : Int} {v : Value} {vs : List (Int × Int)} (h : VB w wc bt bf v vs) (hb : Below wc.heap.size wc wd) : VB w wd bt bf v vs :=
  ⟨ownsRow_below h.own hb, Nat.lt_of_lt_of_le h.sz hb.size, (hb.cell (p := ⟨w.heap.size, 0, none⟩) h.sz).trans h.c0, (hb.cell (p := ⟨w.heap.size, 1, none⟩) h.sz).trans h.c1,
    fun o => (hb.frozen (p := ⟨w.heap.size, o, none⟩) h.sz).trans (h.fr o), h.bel.trans (hb.mono (Nat.le_of_lt h.sz))⟩

theorem VB.store {w wc : World} {bt bf : Int} {v : Value} {vs : List (Int × Int)} (h : VB w wc bt bf v vs) (x y : Int) :
    VB w ((wc.setCell ⟨w.heap.size, 0, none⟩ (.int .i64 x)).setCell ⟨w.heap.size, 1, none⟩ (.int .i64 y)) x y v vs := by
  have g1 : (wc.setCell ⟨w.heap.size, 0, none⟩ (.int .i64 x)).cell? ⟨w.heap.size, 1, none⟩ = some (.int .i64 bf) := by rw [World.cell?_setCell_other _ _ _ _ (by simp)]; exact h.c1
  refine ⟨ownsRow_setCell_below (ownsRow_setCell_below h.own (by simp) _) (by simp) _, by simpa using h.sz, ?_, World.cell?_setCell_same _ _ _ g1, ?_, (h.bel.setCell (p := ⟨w.heap.size, 0, none⟩) (Nat.le_refl _) _).setCell (p := ⟨w.heap.size, 1, none⟩) (Nat.le_refl _) _⟩
  · rw [World.cell?_setCell_other _ _ _ _ (by simp)]; exact World.cell?_setCell_same _ _ _ h.c0
  · intro o; rw [World.frozen?_setCell, World.frozen?_setCell]; exact h.fr o

/-- behind 'votes = append(votes, x)' -/
theorem VB.append {w wc wd : World} {bt bf : Int} {v v' : Value} {vs : List (Int × Int)} {p : Int × Int} {o : Obj} (h : VB w wc bt bf v vs) (hg : (wc.alloc o).grownBy wd v.ownBlock)
    (hown : wd.ownsRow (w.heap.size + 1) 128 2 v' (vs.length + 1) (vcells vs ++ [.int .i64 p.1, .int .i64 p.2])) : VB w wd bt bf v' (vs ++ [p]) := by
  have hs : ∀ k, some k = v.ownBlock → w.heap.size < k := fun k e => (h.own.lt k e.symm).1
  have hne : some w.heap.size ≠ v.ownBlock := fun e => by have := hs _ e; omega
  have hsz : w.heap.size < (wc.alloc o).heap.size := by have := h.sz; simp; omega
  have hblk : wd.heap[w.heap.size]? = wc.heap[w.heap.size]? := (hg.block _ hsz hne).trans (Below.heap_alloc _ _ _ h.sz)
  refine ⟨by rw [vcells_snoc, List.length_append]; exact hown, Nat.lt_of_lt_of_le hsz hg.size, ?_, ?_, ?_, ?_⟩
  · rw [World.cell?_of_block (w := wc) hblk]; exact h.c0
  · rw [World.cell?_of_block (w := wc) hblk]; exact h.c1
  · intro o'; rw [World.frozen?_of_block (w := wc) hblk]; exact h.fr o'
  · exact (h.bel.alloc (Nat.le_of_lt h.sz) o).grown hg (by simp; have := h.sz; omega) (fun k e => by have := hs k e.symm; omega)

/-- a ballot in a block of its own -/
def BlkAt (wc : World) (p : Nat) (bt bf : Int) : Prop := p < wc.heap.size ∧ wc.cell? ⟨p, 0, none⟩ = some (.int .i64 bt) ∧ wc.cell? ⟨p, 1, none⟩ = some (.int .i64 bf)
theorem BlkAt.later {wc wd : World} {p : Nat} {bt bf : Int} (h : BlkAt wc p bt bf) (hb : Below wc.heap.size wc wd) : BlkAt wd p bt bf :=
  ⟨Nat.lt_of_lt_of_le h.1 hb.size, (hb.cell (p := ⟨p, 0, none⟩) h.1).trans h.2.1, (hb.cell (p := ⟨p, 1, none⟩) h.1).trans h.2.2⟩
theorem BlkAt.set {wc : World} {p q o : Nat} {bt bf : Int} (h : BlkAt wc p bt bf) (hne : p ≠ q) (u : Value) : BlkAt (wc.setCell ⟨q, o, none⟩ u) p bt bf :=
  ⟨by simpa using h.1, by rw [World.cell?_setCell_other _ _ _ _ (by intro e; cases e; exact hne rfl)]; exact h.2.1, by rw [World.cell?_setCell_other _ _ _ _ (by intro e; cases e; exact hne rfl)]; exact h.2.2⟩

theorem voted_step {bt bf t : Int} {vs : List (Int × Int)} (h : voted bt bf vs) : (bt < stepT bt t ∨ (stepT bt t = bt ∧ stepF bt bf t = bf)) ∧ voted (stepT bt t) (stepF bt bf t) vs := by
  unfold stepT stepF
  by_cases hlt : bt < t
  · rw [if_pos hlt, if_pos hlt]
    exact ⟨.inl hlt, fun p hp => ⟨by have := (h p hp).1; omega, fun e => by have := (h p hp).1; omega⟩⟩
  · rw [if_neg hlt, if_neg hlt]
    exact ⟨.inr ⟨rfl, rfl⟩, h⟩

set_option maxRecDepth 100000 in
set_option maxHeartbeats 4000000 in
theorem l16VoteOne_calls (l : List (Int × Int × Bool)) (a : Option Addr) (n c : Nat) (w : World) (h : AsksAt w w.heap.size a n c l) :
    Calls Try.prog 22 #[.slice a n c] w fun e w' => e = .returned (.bool true) ∧ Below w.heap.size w w' := by
  obtain ⟨hn, hnc, hcm, hat⟩ := h
  unfold maxLen at hcm
  have HN := Lib.hid hn
  have HAT := Lib.hid hat
  clear hn hat
  by_cases h60 : 60 < n
  · go_enter Try.func22, Try.ntmps22
    go_wp2_with fail
    refine (l16awake_calls _).mono ?_
    rintro e w1 ⟨rfl, hb1⟩
    go_wp2
    go_ret
    exact ⟨rfl, hb1⟩
  · obtain ⟨i0, hi0, hz0, hz1, hz2⟩ := info_parts infoB
    go_enter Try.func22, Try.ntmps22
    go_wp2_with fail
    go_loopg [4, 5] n (fun gk v i wr => ∃ (k : Nat) (bt bf : Int) (vs : List (Int × Int)), k + gk = n ∧ i = .int .i64 k ∧ voted bt bf vs ∧ vs.length ≤ k ∧ VB w wr bt bf v vs)
    case atStart =>
      exact ⟨0, 0, -1, [], by omega, rfl, (by intro p hp; simp at hp), by simp, World.ownsRow_nil _ _ _ _, by simp, by rw [World.cell?_alloc_new]; rfl, by rw [World.cell?_alloc_new]; rfl, fun o => World.frozen?_alloc_new _ _ _ _, (Below.refl _ _).alloc (Nat.le_refl _) _⟩
    case round =>
      obtain ⟨k, bt, bf, vs, hk, rfl, hvt, hvl, hvb⟩ := hrel
      have HV := Lib.hid hvt
      have HK := Lib.hid hk
      have hk2 : k ≤ n := by omega
      clear hvt hk
      by_cases hlt : k < n
      · obtain ⟨b, o, rfl, hb, hcell⟩ := HAT.out (by omega)
        have hcl := hcell k (by rw [← HN.out]; exact hlt)
        clear hcell
        generalize (l[k]'(by rw [← HN.out]; exact hlt)) = q at *
        obtain ⟨at', from', an⟩ := q
        dsimp only at hcl
        have ecell : ∀ wx : World, Below w.heap.size w wx → wx.cell? ⟨b, o + k * 3, none⟩ = some (.int .i64 at') ∧ wx.cell? ⟨b, o + k * 3 + 1, none⟩ = some (.int .i64 from') ∧ wx.cell? ⟨b, o + k * 3 + 2, none⟩ = some (.bool an) :=
          fun wx hx => ⟨(hx.cell (p := ⟨b, o + k * 3, none⟩) hb).trans hcl.1, (hx.cell (p := ⟨b, o + k * 3 + 1, none⟩) hb).trans hcl.2.1, (hx.cell (p := ⟨b, o + k * 3 + 2, none⟩) hb).trans hcl.2.2⟩
        have EC := Lib.hid ecell
        clear ecell hcl
        have c0 := hvb.c0
        have c1 := hvb.c1
        have hsz := hvb.sz
        have HVB := Lib.hid hvb
        clear hvb
        have k0 : (0 : Int) ≤ (k : Int) := by omega
        have k1 : (k : Int) < (n : Int) := by omega
        go_upto_region 9 with (fail)
        go_cut [6] (fun s6 wc => ∃ p, s6 = .pointer (some ⟨p, 0, none⟩) ∧ w.heap.size ≠ p ∧ BlkAt wc p bt bf ∧ VB w wc (stepT bt at') (stepF bt bf at') u4 vs)
        case first =>
          obtain ⟨wa, hwa⟩ : ∃ wa, wa = wr.alloc (.cells #[.int .i64 bt, .int .i64 bf] 128) := ⟨_, rfl⟩
          rw [← hwa]
          have ba : Below wr.heap.size wr wa := by rw [hwa]; exact (Below.refl _ _).alloc (Nat.le_refl _) _
          have vba : VB w wa bt bf u4 vs := HVB.out.later ba
          have bka : BlkAt wa wr.heap.size bt bf := by rw [hwa]; exact ⟨by simp, by rw [World.cell?_alloc_new]; rfl, by rw [World.cell?_alloc_new]; rfl⟩
          clear hwa
          have a0 := vba.c0
          have a1 := vba.c1
          have a2 := (EC.out _ vba.bel).1
          go_still_tail 6, (by kernel_rfl)
          change wpList _ _ _ _ _ wa.drew
          go_wp2_with fail
          refine (voteStep_calls _ _ _ _).mono ?_
          rintro e w1 ⟨rfl, hb1⟩
          have hb2 : Below wa.heap.size wa w1 := ((Below.refl _ _).drew).trans hb1
          have vb1 := vba.later hb2
          have bk1 := bka.later hb2
          have d0 := vb1.c0
          have d1 := vb1.c1
          have f0 := vb1.fr 0
          have f1 := vb1.fr 1
          go_wp2_with fail
          go_meet
          exact ⟨wr.heap.size, rfl, by omega, (bk1.set (by omega) _).set (by omega) _, vb1.store _ _⟩
        case rest =>
          obtain ⟨p, rfl, hp, hbk, hvb2⟩ := hcut
          have hstep : (bt < stepT bt at' ∨ (stepT bt at' = bt ∧ stepF bt bf at' = bf)) ∧ voted (stepT bt at') (stepF bt bf at') vs := voted_step HV.out
          generalize stepT bt at' = bt2 at *
          generalize stepF bt bf at' = bf2 at *
          obtain ⟨hst, hv2⟩ := hstep
          have HV2 := Lib.hid hv2
          clear hv2 c0 c1
          have c0 := hvb2.c0
          have c1 := hvb2.c1
          have sz2 := hvb2.sz
          obtain ⟨hps, w0, w1⟩ := hbk
          have HBK : Hid (BlkAt wc p bt bf) := Lib.hid ⟨hps, w0, w1⟩
          have HVB2 := Lib.hid hvb2
          clear hvb2
          go_upto_region 10 with (fail)
          go_cut [45] (fun s45 wx => s45 = .bool false ∧ wc = wx)
          case first =>
            rcases hst with hst | ⟨rfl, rfl⟩
            · have t1 : decide (bt2 < bt) = false := by simp; omega
              have t2 : (bt2 == bt) = false := by simp; omega
              go_wp2_with fail
              go_meet
              exact ⟨rfl, rfl⟩
            · have t1 : decide (bt2 < bt2) = false := by simp
              go_wp2_with fail
              go_meet
              exact ⟨rfl, rfl⟩
          case rest =>
            obtain ⟨rfl, rfl⟩ := hcut
            obtain ⟨e0, e1, e2⟩ := EC.out _ HVB2.out.bel
            have bs : b < wc.heap.size := by omega
            go_upto_region 12 with (fail)
            go_cut [7, 8] (fun s7 s8 wx => ∃ xp, s7 = .pointer (some ⟨xp, 0, none⟩) ∧ s8 = .bool (granted bt2 bf2 from' at' an) ∧ wc.heap.size ≤ xp ∧ BlkAt wx xp (grantT bt2 bf2 from' at' an) (grantF bt2 bf2 from' at' an) ∧ VB w wx bt2 bf2 u4 vs)
            case first =>
              have KP : Hid (∀ wx : World, Below wc.heap.size wc wx → wx.cell? ⟨w.heap.size, 0, none⟩ = some (.int .i64 bt2) ∧ wx.cell? ⟨w.heap.size, 1, none⟩ = some (.int .i64 bf2) ∧ wx.cell? ⟨b, o + k * 3, none⟩ = some (.int .i64 at') ∧ wx.cell? ⟨b, o + k * 3 + 1, none⟩ = some (.int .i64 from') ∧ wx.cell? ⟨b, o + k * 3 + 2, none⟩ = some (.bool an)) :=
                Lib.hid fun wx hx => ⟨(HVB2.out.later hx).c0, (HVB2.out.later hx).c1, EC.out _ (HVB2.out.later hx).bel⟩
              go_region_held3 (fun w' => w'.cell? ⟨w.heap.size, 0, none⟩ = some (.int .i64 bt2) ∧ w'.cell? ⟨w.heap.size, 1, none⟩ = some (.int .i64 bf2) ∧ w'.cell? ⟨b, o + k * 3, none⟩ = some (.int .i64 at') ∧ w'.cell? ⟨b, o + k * 3 + 1, none⟩ = some (.int .i64 from') ∧ w'.cell? ⟨b, o + k * 3 + 2, none⟩ = some (.bool an)) (first | go_keep | (refine KP.out _ ?_; first | assumption | exact hx2 _ | exact hx3 _ _)) (first | (go_at_call 84; refine (voteGrant_calls _ _ _ _ _ _).mono ?_; rintro e w1 ⟨rfl, hb1⟩; have hx1 : Below wc.heap.size wc w1 := (by first | exact ((Below.refl _ _).drew).trans hb1 | exact (((Below.refl _ _).alloc (Nat.le_refl _) _).drew).trans (hb1.mono (by simp))); have s1 : w.heap.size < w1.heap.size := Nat.lt_of_lt_of_le sz2 hx1.size; have s2 : b < w1.heap.size := Nat.lt_of_lt_of_le bs hx1.size; obtain ⟨hcA, hfA⟩ := bcell hb1; have hx2 : ∀ o, Below wc.heap.size wc (w1.alloc o) := (fun o => hx1.alloc hx1.size o); have hx3 : ∀ u v, Below wc.heap.size wc ((w1.setCell ⟨wc.heap.size, 0, none⟩ u).setCell ⟨wc.heap.size, 1, none⟩ v) := (fun u v => (hx1.setCell (p := ⟨wc.heap.size, 0, none⟩) (Nat.le_refl _) u).setCell (p := ⟨wc.heap.size, 1, none⟩) (Nat.le_refl _) v)))
              all_goals rename_i hh; clear hh
              all_goals go_wp2_with fail
              all_goals go_meet
              all_goals first
                | exact ⟨w1.heap.size, rfl, rfl, hx1.size, ⟨by simp, by rw [World.cell?_alloc_new]; rfl, by rw [World.cell?_alloc_new]; rfl⟩, HVB2.out.later (hx1.alloc hx1.size _)⟩
                | (refine ⟨wc.heap.size, rfl, rfl, Nat.le_refl _, ?_, HVB2.out.later ((hx1.setCell (p := ⟨wc.heap.size, 0, none⟩) (Nat.le_refl _) _).setCell (p := ⟨wc.heap.size, 1, none⟩) (Nat.le_refl _) _)⟩
                   have q0 := hcA wc.heap.size 0 (by simp)
                   have q1 := hcA wc.heap.size 1 (by simp)
                   have qz : wc.heap.size < w1.heap.size := by have := hb1.size; simp at this; omega
                   rw [World.cell?_drew, World.cell?_alloc_new] at q0 q1
                   refine ⟨by simpa using qz, ?_, ?_⟩
                   · rw [World.cell?_setCell_other _ _ _ _ (by simp)]; exact World.cell?_setCell_same _ _ _ q0
                   · exact World.cell?_setCell_same _ _ _ ((World.cell?_setCell_other _ _ _ _ (by simp)).trans q1))
            case rest =>
              obtain ⟨xp, rfl, rfl, hxp, hbx, hvb3⟩ := hcut
              have hvo := HVB2.out.own.lt
              have hxo : u4.ownBlock ≠ some xp := fun e => by have := (hvo _ e).2; omega
              clear hvo
              cases hg : granted bt2 bf2 from' at' an
              · -- no vote: nothing has turned
                have hgt : grantT bt2 bf2 from' at' an = bt2 := by simp [grantT, hg]
                have hgf : grantF bt2 bf2 from' at' an = bf2 := by simp [grantF, hg]
                rw [hgt, hgf] at hbx
                clear hgt hgf hg
                obtain ⟨x2, x0, x1⟩ := hbx
                have y0 := hvb3.c0
                have y1 := hvb3.c1
                have HVB3 := Lib.hid hvb3
                clear hvb3
                go_wp2
                go_roundg (gk - 1)
                case measure => have := HK.out; omega
                case rel => exact ⟨k + 1, bt2, bf2, vs, by have := HK.out; omega, by go_num, HV2.out, by omega, HVB3.out⟩
              · have hgt : grantT bt2 bf2 from' at' an = at' := by simp [grantT, hg]
                have hgf : grantF bt2 bf2 from' at' an = from' := by simp [grantF, hg]
                rw [hgt, hgf] at hbx
                clear hgt hgf
                simp [granted, isWho] at hg
                obtain ⟨⟨⟨⟨hf0, hf7⟩, rfl⟩, rfl⟩, hbf⟩ := hg
                have HB := Lib.hid hbf
                clear hbf
                obtain ⟨x2, x0, x1⟩ := hbx
                have y0 := hvb3.c0
                have y1 := hvb3.c1
                obtain ⟨z0, z1, z2⟩ := EC.out _ hvb3.bel
                have HVB3 := Lib.hid hvb3
                clear hvb3
                obtain ⟨av, cv, rfl, hsl⟩ := SlAt.ofOwns HVB3.out.own
                have hcv := hsl.hmax
                have hvc := hsl.hle
                unfold maxLen at hcv
                have HSL := Lib.hid hsl
                clear hsl
                go_wp2_with fail
                go_quiet (fail)
                go_wp2_with fail
                go_loopw [9] (fun kk wx => ∃ j : Nat, j ≤ vs.length ∧ kk = .int .i64 j ∧ Below wc.heap.size wc wx) (fun kk _ => vs.length - (intOf kk).toNat)
                case atStart => exact ⟨0, by omega, rfl, below_drewN (Below.refl _ _) _⟩
                case round =>
                  obtain ⟨j, hj, rfl, hbj⟩ := hrel
                  have vbj := HVB3.out.later hbj
                  have hslj := HSL.out.below hbj (Nat.le_refl _)
                  have xj0 : wr.cell? ⟨xp, 0, none⟩ = some (.int .i64 bt2) := (hbj.cell (p := ⟨xp, 0, none⟩) x2).trans x0
                  have xj1 : wr.cell? ⟨xp, 1, none⟩ = some (.int .i64 from') := (hbj.cell (p := ⟨xp, 1, none⟩) x2).trans x1
                  by_cases hjl : j < vs.length
                  · obtain ⟨vb, vo, rfl, hvbb, hvc2⟩ := hslj.hat (by rw [vcells_length]; omega)
                    have g0 : wr.cell? ⟨vb, vo + j * 2, none⟩ = some (.int .i64 vs[j].1) := (hvc2 (j * 2) (by rw [vcells_length]; omega)).trans (vcells_get vs j hjl).1
                    have g1 : wr.cell? ⟨vb, vo + j * 2 + 1, none⟩ = some (.int .i64 vs[j].2) := (hvc2 (j * 2 + 1) (by rw [vcells_length]; omega)).trans (vcells_get vs j hjl).2
                    have hmem := HV2.out vs[j] (List.getElem_mem hjl)
                    clear hvc2
                    generalize vs[j] = pq at *
                    obtain ⟨p1, p2⟩ := pq
                    dsimp only at g0 g1 hmem
                    have j0 : (0 : Int) ≤ (j : Int) := by omega
                    have j1 : (j : Int) < (vs.length : Int) := by omega
                    by_cases hpe : p1 = bt2
                    · have hp2 : p2 = from' := by
                        obtain ⟨h1, h2⟩ := hmem.2 hpe
                        rcases HB.out with h | h <;> omega
                      subst hpe hp2
                      clear hmem
                      have t1 : (p1 == p1) = true := by simp
                      go_wp2_with fail
                      go_quiet (fail)
                      go_wp2
                      go_roundw
                      case rel => exact ⟨j + 1, by omega, by go_num, below_drewN hbj _⟩
                      case measure => simp [intOf]; omega
                    · have t1 : (p1 == bt2) = false := by simpa using hpe
                      clear hmem
                      go_wp2_with fail
                      go_quiet (fail)
                      go_wp2
                      go_roundw
                      case rel => exact ⟨j + 1, by omega, by go_num, below_drewN hbj _⟩
                      case measure => simp [intOf]; omega
                  · have hown := vbj.own
                    have VBJ := Lib.hid vbj
                    clear vbj hslj
                    have hxs : xp < wr.heap.size := Nat.lt_of_lt_of_le x2 hbj.size
                    have hbs := VBJ.out.sz
                    go_wp2_with (at_builtin; refine wpList_append_own _ rfl _ _ 134 rfl (w.heap.size + 1) 128 i0 (.agg #[.int .i64 0, .int .i64 0]) 2 16 Try.underlying134 hi0 hz0 hz1 hz2 rfl (by decide) _ _ _ rfl (hown.alloc _) ⟨wr.heap.size, 0, none⟩ 1 1 [.int .i64 bt2, .int .i64 from'] rfl rfl ?c1 ?c2 ?c3 ?c4 ?c5 ?_)
                    case c1 =>
                      intro j' u hu
                      match j', hu with
                      | 0, hu => simp at hu; subst hu; simp [Addr.add]
                      | 1, hu => simp at hu; subst hu; simp [Addr.add]
                    case c2 => intro u hu; simp at hu; rcases hu with rfl | rfl <;> rfl
                    case c3 => unfold maxLen; omega
                    case c4 => omega
                    case c5 => simp; omega
                    intro v' w5 hown' hgrow _
                    have vb5 := VBJ.out.append (p := (bt2, from')) hgrow hown'
                    have hxn : some xp ≠ (Value.slice av vs.length cv).ownBlock := fun e => hxo e.symm
                    have hxblk : w5.heap[xp]? = wr.heap[xp]? := (hgrow.block _ (by simp; omega) hxn).trans (Below.heap_alloc _ _ _ hxs)
                    have xj50 : w5.cell? ⟨xp, 0, none⟩ = some (.int .i64 bt2) := (World.cell?_of_block (w := wr) hxblk).trans xj0
                    have xj51 : w5.cell? ⟨xp, 1, none⟩ = some (.int .i64 from') := (World.cell?_of_block (w := wr) hxblk).trans xj1
                    clear hown' hgrow hxn hxblk hown
                    have q0 := vb5.c0
                    have q1 := vb5.c1
                    have r0 := vb5.fr 0
                    have r1 := vb5.fr 1
                    have VB5 := Lib.hid vb5
                    clear vb5
                    go_wp2
                    go_roundg (gk - 1)
                    case measure => have := HK.out; omega
                    case rel =>
                      refine ⟨k + 1, bt2, from', vs ++ [(bt2, from')], by have := HK.out; omega, by go_num, ?_, by simp; omega, VB5.out.store _ _⟩
                      intro pp hpp
                      rcases List.mem_append.1 hpp with h | h
                      · have hm := HV2.out pp h
                        refine ⟨hm.1, fun e => ?_⟩
                        obtain ⟨h1, h2⟩ := hm.2 e
                        rcases HB.out with h | h <;> omega
                      · have : pp = (bt2, from') := by simpa using h
                        subst this
                        exact ⟨Int.le_refl _, fun _ => ⟨rfl, hf0⟩⟩
      · have hk3 : k = n := by omega
        subst hk3
        go_wp2_with fail
        refine (l16awake_calls _).mono ?_
        rintro e w1 ⟨rfl, hb1⟩
        go_wp2
        go_ret
        exact ⟨rfl, hvb.bel.trans (hb1.mono (Nat.le_of_lt hvb.sz))⟩

end Go.Proofs.Ytogcnfhmcpkdcaa
