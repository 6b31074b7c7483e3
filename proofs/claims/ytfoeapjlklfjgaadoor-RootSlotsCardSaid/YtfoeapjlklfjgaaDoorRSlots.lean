/- The law RootSlots, walked. No condition. -/
import Derived.Test.YtfoeapjlklfjgaaDoorRootC
import Derived.Deep.DeepCutAuto
namespace Go.Proofs.YtfoeapjlklfjgaaDoor
set_option linter.unusedSimpArgs false
set_option linter.unusedVariables false
open Go.RowKit

/-- Roots saved one by one on a new disk of two sectors. -/
structure Slot (s : DSt) (gen : Nat) : Prop where
  up : s.Up
  len : s.sure.length = 2
  pend : s.pend = []
  beg : s.begun ≤ 2 * gen
  is : genOf (s.sure.getD (gen % 2) []) (gen % 2) = gen
  other : genOf (s.sure.getD ((gen + 1) % 2) []) ((gen + 1) % 2) = gen - 1
theorem Slot.zero : Slot (DSt.new 2) 0 := ⟨DSt.new_up 2, rfl, rfl, (by decide : 0 ≤ 2 * 0), DSt.new_zero _, DSt.new_zero _⟩
theorem Slot.next {s : DSt} {gen : Nat} (h : Slot s gen) (hg : gen + 1 < 4294967296) : (s.save (gen + 1)).2 = 0 ∧ Slot (s.save (gen + 1)).1 (gen + 1) := by
  have hgo := h.up.goes
  have hb : s.beg = { sure := s.sure, pend := s.pend, down := false, stop := 0, begun := s.begun + 1 } := by
    unfold DSt.beg
    rw [hgo, h.up.stop]
  have hbb : s.beg.beg = { sure := s.sure, pend := s.pend, down := false, stop := 0, begun := s.begun + 2 } := by
    have hg2 : s.beg.goes = false := DSt.Up.goes (s := s.beg) ⟨by rw [hb], by rw [hb]⟩
    rw [DSt.beg, hg2, hb]
  rcases DSt.save_cases (s := s) h.up.down h.pend (by rw [h.len]; exact Nat.le_refl _) (gen := gen + 1) (by omega) with ⟨e, _, _⟩ | ⟨_, hg⟩ | ⟨_, _, hg⟩
  · rw [e, hbb]
    have hlt : (gen + 1) % 2 < s.sure.length := by rw [h.len]; omega
    refine ⟨rfl, ⟨rfl, rfl⟩, by show (s.sure.set _ _).length = 2; rw [List.length_set]; exact h.len, rfl, by show s.begun + 2 ≤ _; have := h.beg; omega, ?_, ?_⟩
    · show genOf ((s.sure.set ((gen + 1) % 2) (rootS (gen + 1))).getD ((gen + 1) % 2) []) _ = _
      rw [DSt.getD_set hlt, if_pos rfl]
      exact genOf_root (by omega) hg
    · show genOf ((s.sure.set ((gen + 1) % 2) (rootS (gen + 1))).getD ((gen + 1 + 1) % 2) []) _ = _
      rw [DSt.getD_set hlt, if_neg (by omega)]
      have e5 : (gen + 1 + 1) % 2 = gen % 2 := by omega
      rw [e5, h.is]
      rfl
  · rw [hgo] at hg; cases hg
  · rw [DSt.Up.goes (s := s.beg) ⟨by rw [hb], by rw [hb]⟩] at hg; cases hg
/-- The sector a says nothing: the other one counts. -/
theorem load_one {s : DSt} {su : List (List Nat)} {a : Nat} {l : List Nat} (hd : s.down = false) (hp : s.pend = []) (hs : s.sure = su.set a l) (hl : su.length = 2) (ha : a < 2) (hz : genOf l a = 0) : s.load = (genOf (su.getD ((a + 1) % 2) []) ((a + 1) % 2), 0) := by
  rw [DSt.load_plain hd hp (by rw [hs, List.length_set, hl]; exact Nat.le_refl _), hs]
  congr 1
  have hm : a = 0 ∨ a = 1 := by omega
  rcases hm with rfl | rfl
  · rw [DSt.getD_set (by omega), DSt.getD_set (by omega), if_pos rfl, if_neg (by decide), hz]
    show max 0 (genOf (su.getD 1 []) 1) = genOf (su.getD 1 []) 1
    omega
  · rw [DSt.getD_set (by omega), DSt.getD_set (by omega), if_pos rfl, if_neg (by decide), hz]
    show max (genOf (su.getD 0 []) 0) 0 = genOf (su.getD 0 []) 0
    omega
theorem genOf_row (c slot : Nat) : genOf ((List.replicate 64 0).set 5 c) slot = 0 := by
  have : Cl.isEnc ((List.replicate 64 0).set 5 c) = false := by
    unfold Cl.isEnc
    have : (Cl.raw ((List.replicate 64 0).set 5 c)).may = false := by
      unfold Cl.may Cl.raw
      exact decide_eq_false (fun h => by have := h.1; simp at this)
    rw [this]; simp
  unfold genOf isRootL
  rw [this]; rfl
/-- What the end of the law reads. -/
theorem slot_end {s : DSt} {k a : Nat} {l : List Nat} (h : Slot s k) (ha : a < 2) (hl : l.length = 64) (hz : ∀ i, genOf l i = 0) :
    ∃ s1 s2 s3, s.write (a : Int) l = (s1, 0) ∧ s1.up [2] = s2 ∧ s2.load = (genOf (s.sure.getD ((a + 1) % 2) []) ((a + 1) % 2), 0) ∧ s2.write (a : Int) l = (s3, 0) ∧ s3.flush.1.load = (genOf (s.sure.getD ((a + 1) % 2) []) ((a + 1) % 2), 0) ∧ s2.begun = 0 ∧ s2.pend = [] ∧ s3.begun = 1 := by
  have h1 := DSt.torn_of h.up h.pend rfl (k := a) (by rw [h.len]; exact ha) hl
  have h2 := DSt.torn_write (su := s.sure) (k := a) (by rw [h.len]; exact ha) hl
  refine ⟨_, _, _, h1.1, h1.2, ?_, h2, ?_, rfl, rfl, rfl⟩
  · exact load_one (l := []) rfl rfl rfl h.len ha (genOf_nil a)
  · rw [DSt.Up.flush ⟨rfl, rfl⟩]
    refine load_one (l := l) rfl rfl ?_ h.len ha (hz a)
    show (s.sure.set a []).set a l = s.sure.set a l
    rw [List.set_set]

theorem wpList_mkB_ {w : World} {ops : Array Oper} {rest : List Oper} {o : Oper} {a : Act} {Q : Exit → Act → World → Prop} (hgd : o.guard = none) (l c : Operand) (ho : o.op = Op.makeSlice 23 l c) {kl kc : IntKind} {L C : Int} (n : Nat) (hl : a.eval l = .int kl L) (hc : a.eval c = .int kc C) (hL : L = (n : Int)) (hC : C = (n : Int)) (b3 : n ≤ 281474976710656) (base : Nat) (hbase : base ≤ w.heap.size)
    (h : ∀ w', OwnI w' base .u8 256 5 (some ⟨w.heap.size, 0, none⟩) n n (List.replicate n 0) → w.grownBy w' none → wpList Tryd.prog ops Q rest (a.put o.dst (.slice (some ⟨w.heap.size, 0, none⟩) n n)) w') :
    wpList Tryd.prog ops Q (o :: rest) a w :=
  wpList_mkI w hgd l c 23 ho (lim := 256) (by omega) 5 1 Tryd.underlying23 dinfo_u8 n hl hc hL hC (by omega) (by unfold maxLen; omega) base hbase h
theorem bel_in_ {w : World} {base g : Nat} {c : Nat} {l : List Nat} (h : OwnI w base .u8 256 5 (some ⟨g, 0, none⟩) 64 c l) (hl : l.length = 64) : BEl.In w ⟨some ⟨g, 0, none⟩, 64, c, l⟩ :=
  ⟨h.mono (Nat.zero_le _), Iff.intro (fun e => (by cases e)) (fun e => (by have e : l = [] := e; rw [e] at hl; cases hl))⟩
set_option maxRecDepth 100000 in
set_option maxHeartbeats 6400000 in
theorem rootSlots_any (n : Nat) (wh : Bool) (y : Nat) (w : World) (hn : n < 256) (hy : y < 256) :
    Calls Tryd.prog 10 #[.int .u8 (n : Int), .bool wh, .int .u8 (y : Int)] w fun e w' => e = .returned (.bool true) ∧ Below w.heap.size w w' := by
  obtain ⟨m, hm⟩ : ∃ m, n % 20 = m := ⟨_, rfl⟩
  have hmi : (n : Int) % 20 = (m : Int) := by omega
  obtain ⟨k, hk⟩ : ∃ k, 2 + m = k := ⟨_, rfl⟩
  have hki : (2 : Int) + (m : Int) = (k : Int) := by omega
  have hk22 : 2 ≤ k ∧ k < 22 := by omega
  clear hm hk
  obtain ⟨hk2, hk22⟩ := hk22
  go_enter Tryd.func10, Tryd.ntmps10
  go_wp2_with fail
  refine (rawake_any _).mono ?_; rintro e w1 ⟨rfl, hb1⟩
  go_wp2_with fail
  refine (dnew_de 2 (by omega) (by omega) _ hb1).mono ?_; rintro e w2 ⟨g, rfl, E0⟩
  go_wp2_with fail
  clear hmi hki
  go_loopw [10] (fun v wr => ∃ (j : Nat) (s : DSt), j ≤ k ∧ v = .int .u32 ((j + 1 : Nat) : Int) ∧ DE w wr g s [] [] ∧ Slot s j) (fun v _ => k + 1 - (intOf v).toNat)
  case atStart => exact ⟨0, _, Nat.zero_le _, rfl, E0, Slot.zero⟩
  case round =>
    obtain ⟨j, s, hj, rfl, E, hS⟩ := hrel
    clear E0
    obtain ⟨j1, hj1⟩ : ∃ z, j + 1 = z := ⟨_, rfl⟩
    rw [hj1]
    by_cases hjk : j < k
    · have hle : (j1 : Int) ≤ (k : Int) := by omega
      have hnx := hS.next (by omega)
      rw [hj1] at hnx
      have hb := hS.beg
      have hp := hS.pend
      have HS := Lib.hid hnx
      obtain ⟨j2, hj2⟩ : ∃ z, j1 + 1 = z := ⟨_, rfl⟩
      have hin : (j1 : Int) + 1 = (j2 : Int) := by omega
      clear hnx hS
      go_wp2_with fail
      refine (save_any E j1 (by omega) (by omega) (by rw [hp]; decide)).mono ?_; rintro e w3 ⟨rfl, E⟩
      rw [HS.out.1]
      clear hp
      go_wp2_with fail
      go_roundw
      case rel =>
        exact ⟨j1, _, by omega, by rw [hj2], E, HS.out.2⟩
      case measure => simp [intOf]; omega
    · obtain rfl : j = k := by omega
      have hle : ¬ (j1 : Int) ≤ (j : Int) := by omega
      obtain ⟨a0, ha0⟩ : ∃ a, j % 2 = a := ⟨_, rfl⟩
      have ha0i : (j : Int) % 2 = (a0 : Int) := by omega
      obtain ⟨a1, ha1⟩ : ∃ a, 1 - a0 = a := ⟨_, rfl⟩
      obtain ⟨km, hkm⟩ : ∃ z, j - 1 = z := ⟨_, rfl⟩
      have hkmi : (j : Int) - 1 = (km : Int) := by omega
      have HW := Lib.hid (And.intro (show wrap64 ((1 : Int) - (a0 : Int)) = (a1 : Int) from (IntWalk.wrap64_in _ (by omega)).trans (by omega)) (show (1 : Int) - (a0 : Int) = (a1 : Int) by omega))
      have hsb := hS.beg
      have hsp : s.pend.length = 0 := by rw [hS.pend]; rfl
      have hrl : ((List.replicate 64 0).set 5 y).length = 64 := by rw [List.length_set, List.length_replicate]
      have hoth := hS.other
      have his := hS.is
      -- the sector that is turned, what the other one says
      obtain ⟨at_, ha, hat⟩ : ∃ at_, (if wh then a1 else a0) = at_ ∧ at_ < 2 := ⟨_, rfl, by split <;> omega⟩
      obtain ⟨want, hwt⟩ : ∃ z, (if wh then j else km) = z := ⟨_, rfl⟩
      have hgw : genOf (s.sure.getD ((at_ + 1) % 2) []) ((at_ + 1) % 2) = want := by
        cases wh with
        | true =>
          rw [if_pos rfl] at ha hwt
          subst ha; subst hwt
          rw [show (a1 + 1) % 2 = j % 2 by omega]
          exact his
        | false =>
          rw [if_neg (by decide)] at ha hwt
          subst ha; subst hwt
          rw [show (a0 + 1) % 2 = (j + 1) % 2 by omega, hoth]
          exact hkm
      obtain ⟨s1, s2, s3, f1, f2, f3, f4, f5, f6, f7, f8⟩ := slot_end (l := (List.replicate 64 0).set 5 y) hS hat hrl (fun i => genOf_row y i)
      rw [hgw] at f3 f5
      have HH := Lib.hid (And.intro f1 (And.intro f2 (And.intro f3 (And.intro f4 f5))))
      have f7' : s2.pend.length = 0 := by rw [f7]; rfl
      have HA := Lib.hid (And.intro ha hwt)
      have HHS := Lib.hid hsb
      clear hS hoth his hgw f1 f2 f3 f4 f5 f7 ha hwt ha0 ha1 hkm hsb
      go_upto_if 44 with (fail)
      go_cut [11, 12] (fun v11 v12 wx => v11 = .int .i64 (at_ : Int) ∧ v12 = .int .u32 (want : Int) ∧ wx = wr)
      case first =>
        have hw1 := HW.out.1
        have hw2 := HW.out.2
        cases wh with
        | true =>
          go_wp2_with fail
          go_meet
          exact ⟨congrArg (fun z : Nat => Value.int .i64 (z : Int)) HA.out.1, congrArg (fun z : Nat => Value.int .u32 (z : Int)) HA.out.2, rfl⟩
        | false =>
          go_wp2_with fail
          go_meet
          exact ⟨congrArg (fun z : Nat => Value.int .i64 (z : Int)) HA.out.1, congrArg (fun z : Nat => Value.int .u32 (z : Int)) HA.out.2, rfl⟩
      case rest =>
        obtain ⟨rfl, rfl, rfl⟩ := hcut
        clear ha0i hkmi
        go_upto_region 18 with (refine wpList_mkB_ rfl _ _ rfl 64 rfl rfl rfl rfl (by omega) _ (Nat.le_refl _) ?_; intro w3 ho3 hg3)
        have E3 := E.below (below_none (Below.refl _ _) hg3 (Nat.le_refl _))
        have hsz := hg3.size
        obtain ⟨q, _, he, hq1, hq2, _, _, hcell, hfr⟩ := ho3.get (k := 5) (by decide)
        have ho4 := ho3.stored 5 y hy
        have hb4 := (Below.refl w3.heap.size w3)
        have E4 := E.below ((below_none (Below.refl _ _) hg3 (Nat.le_refl _)).setCell (p := ⟨q, 5, none⟩) hq1 (.int .u8 (y : Int)))
        cases he
        have hI4 := bel_in_ ho4 hrl
        have E5 := E4.add hI4
        clear E3 E4 hsz ho3 ho4 hg3 hb4 hI4 E
        go_wp2_with fail
        refine (dwrite_de E5 (at_ : Int) (E5.row 0 rfl).own (by show (64 : Int) ≤ _; decide) (by have := HHS.out; omega) (by omega)).mono ?_; rintro e w5 ⟨rfl, E⟩
        rw [HH.out.1] at E ⊢
        dsimp only at E ⊢
        clear E5 hcell hfr
        go_wp2_with fail
        have E := E.alloc (.cells #[.int .u8 2] 5)
        refine (dup_de E (Ints.one .u8 256 5 2 rfl (by omega) rfl) (by omega)).mono ?_; rintro e w6 ⟨⟨_, rfl⟩, E⟩
        rw [HH.out.2.1] at E
        go_wp2_with fail
        refine (load_any E).mono ?_; rintro e w7 ⟨rfl, hb7⟩
        rw [HH.out.2.2.1]
        have E := E.below hb7
        clear hb7
        go_wp2_with fail
        refine (dwrite_de E (at_ : Int) (E.row 0 rfl).own (by show (64 : Int) ≤ _; decide) (by omega) (by omega)).mono ?_; rintro e w8 ⟨rfl, E⟩
        rw [HH.out.2.2.2.1] at E ⊢
        dsimp only at E ⊢
        go_wp2_with fail
        refine (dflush_de E (by omega)).mono ?_; rintro e w9 ⟨rfl, E⟩
        generalize s3.flush.2 = cdf
        go_wp2_with fail
        refine (load_any E).mono ?_; rintro e w10 ⟨rfl, hb10⟩
        rw [HH.out.2.2.2.2]
        have E := E.below hb10
        clear hb10
        have hww : ((want : Int) == (want : Int)) = true := by simp
        go_wp2_with fail
        go_ret
        exact ⟨rfl, E.bel⟩
end Go.Proofs.YtfoeapjlklfjgaaDoor
