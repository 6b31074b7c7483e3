/- The law RootPlays, walked. No condition but the reach of a slice. -/
import Derived.Test.YtfoeapjlklfjgaaDoorGRBE
import Derived.Test.YtfoeapjlklfjgaaDoorLawAct8
import Derived.Deep.DeepCutAuto
import Derived.Deep.CutBlock
namespace Go.Proofs.YtfoeapjlklfjgaaDoor
set_option linter.unusedSimpArgs false
set_option linter.unusedVariables false
open Go.RowKit

theorem flush_begun_ (s : DSt) : s.flush.1.begun ≤ s.begun + 1 ∧ s.flush.1.pend.length ≤ s.pend.length := by
  unfold DSt.flush
  split
  · exact ⟨by show s.begun ≤ _; omega, Nat.le_refl _⟩
  · split
    · exact ⟨by show s.begun + 1 ≤ _; omega, Nat.le_refl _⟩
    · exact ⟨by show s.begun + 1 ≤ _; omega, Nat.zero_le _⟩
theorem save_more_ (s : DSt) (gen : Nat) : (s.save gen).1.begun ≤ s.begun + 2 ∧ (s.save gen).1.pend.length ≤ s.pend.length + 1 := by
  unfold DSt.save
  have h1 := wr_begun s (gen % 2 : Nat) (rootS gen)
  split
  · exact ⟨by show s.begun ≤ _; omega, by show s.pend.length ≤ _; omega⟩
  · split
    · have h2 := flush_begun_ (s.write (gen % 2 : Nat) (rootS gen)).1
      omega
    · omega

set_option maxRecDepth 100000 in
set_option maxHeartbeats 12800000 in
theorem rootPlays_any (n : Nat) (A1 : Option Addr) (n1 c1 : Nat) (xs : List RActEl) (w : World) (hn : n < 256) (hr1 : RARows w A1 n1 c1 xs) (hn1 : n1 ≤ maxLen) :
    Calls Tryd.prog 14 #[.int .u8 (n : Int), .slice A1 n1 c1] w fun e w' => e = .returned (.bool true) ∧ Below w.heap.size w w' := by
  unfold maxLen at hn1
  obtain ⟨r, hr⟩ : ∃ z, n % 8 = z := ⟨_, rfl⟩
  obtain ⟨k, hk⟩ : ∃ z, 1 + r = z := ⟨_, rfl⟩
  have hri : (n : Int) % 8 = (r : Int) := by omega
  have hki : 1 + (r : Int) = (k : Int) := by omega
  have hk1 : 1 ≤ k := by omega
  have hk2 : k ≤ 8 := by omega
  have HR := Lib.hid hr1
  clear hr hk hr1
  go_enter Tryd.func14, Tryd.ntmps14
  go_wp2_with fail
  refine (rawake_any _).mono ?_; rintro e w1 ⟨rfl, hb1⟩
  go_wp2_with fail
  refine (dnew_de k hk1 (by omega) _ hb1).mono ?_; rintro e w2 ⟨g, rfl, E⟩
  go_wp2_with fail
  refine (make_te E k hk1 (by omega)).mono ?_; rintro e w3 ⟨h, rfl, E0⟩
  clear E
  clear hri hki
  go_wp2_with fail
  go_loopw [9] (fun iv wr => ∃ (i : Nat) (s : DSt), i ≤ n1 ∧ i ≤ 40 ∧ iv = .int .i64 (i : Int) ∧ TE w wr g h s s [] ∧ s.begun ≤ 2 * i ∧ s.pend.length ≤ 2 * i) (fun iv _ => n1 - (intOf iv).toNat)
  case atStart => exact ⟨0, _, by omega, by omega, rfl, E0, Nat.zero_le _, Nat.zero_le _⟩
  case round =>
    obtain ⟨i, s, hi1, hi2, rfl, E, hbg, hpd⟩ := hrel
    clear E0
    by_cases hgo : i < n1 ∧ i < 40
    · obtain ⟨hg1, hg2⟩ := hgo
      have hlt1 : (i : Int) < (n1 : Int) := by omega
      have hlt2 : (i : Int) < 40 := by omega
      have hlt2d : decide ((i : Int) < 40) = true := decide_eq_true hlt2
      obtain ⟨ba, o, x, rfl, hx, _, h0, h1, h2, h3⟩ := (HR.out.below E.bel).get hg1
      have hok := HR.out.ok x (List.mem_of_getElem? hx)
      have HOK := Lib.hid hok
      clear hx hok
      by_cases hch : 300 < x.n
      · have h300 : 300 < (x.n : Int) := by omega
        have h300d : decide (300 < (x.n : Int)) = true := decide_eq_true h300
        have HB := Lib.hid (E.add 73 #[.int .i64 x.k, .int .u32 (x.gen : Int), .int .i64 x.i, .slice x.A x.n x.cp]).bel
        clear hch E
        go_wp2_with fail
        go_ret
        exact ⟨rfl, HB.out⟩
      have h300d : decide (300 < (x.n : Int)) = false := decide_eq_false (by omega)
      have h300 : ¬ 300 < (x.n : Int) := by omega
      have hcn : x.n ≤ 300 := by omega
      have HCN := Lib.hid hcn
      clear hch hcn
      have E2 := E.add 73 #[.int .i64 x.k, .int .u32 (x.gen : Int), .int .i64 x.i, .slice x.A x.n x.cp]
      clear E
      have E := E2
      clear E2
      go_upto_block 2 with (fail)
      generalize wr.alloc _ = w4 at *
      generalize wr.heap.size = ga at *
      clear h0 h1 h2 h3 h300 h300d
      go_cut [11, 12] (fun v11 v12 wx => v11 = .bool true ∧ ∃ s2 : DSt, TE w wx g h s2 s2 [] ∧ s2.begun ≤ 2 * (i + 1) ∧ s2.pend.length ≤ 2 * (i + 1))
      case first =>
        have k0 : w4.cell? ⟨ga, 0, none⟩ = some (.int .i64 x.k) := E.cell 0 0 rfl rfl
        by_cases hk0 : x.k = 0
        · have q0 : (x.k == 0) = true := by simp [hk0]
          clear hk0 k0
          go_wp2_with fail
          have E := E.drew
          generalize hwd : World.drew _ = w5 at *
          have s0 : (fun w' : World => w'.cell? ⟨ga, 1, none⟩ = some (.int .u32 (x.gen : Int))) w5 := E.cell 0 1 rfl rfl
          refine wp_region_late [9] (fun w' : World => w'.cell? ⟨ga, 1, none⟩ = some (.int .u32 (x.gen : Int))) (by kernel_rfl) ?_
          rw [hwd]
          clear hwd
          refine wpAnyL_take (i := 0) (v := ?_) rfl (by kernel_rfl) (by kernel_rfl) (by kernel_rfl) (by kernel_rfl) (by kernel_rfl) (fun _ _ _ h => h) (Or.inl ⟨by kernel_rfl, ?_⟩) s0 ?_
          rotate_left
          · rintro w0 h1_; go_simp; (try with_reducible rfl)
          try simp only [Act.put, List.getElem_toArray, List.getElem_cons_succ, List.getElem_cons_zero, List.setIfInBounds_toArray, List.set_cons_zero, List.set_cons_succ]
          refine wpAnyL_take (i := 1) (v := ?_) rfl (by kernel_rfl) (by kernel_rfl) (by kernel_rfl) (by kernel_rfl) (by kernel_rfl) (fun _ _ _ h => h) (Or.inl ⟨by kernel_rfl, ?_⟩) s0 ?_
          rotate_left
          · rintro w0 h1_; go_simp; (try with_reducible rfl)
          try simp only [Act.put, List.getElem_toArray, List.getElem_cons_succ, List.getElem_cons_zero, List.setIfInBounds_toArray, List.set_cons_zero, List.set_cons_succ]
          refine wpAnyL_take (i := 2) (v := ?_) rfl (by kernel_rfl) (by kernel_rfl) (by kernel_rfl) (by kernel_rfl) (by kernel_rfl) (fun _ _ _ h => h) (Or.inl ⟨by kernel_rfl, ?_⟩) s0 ?_
          rotate_left
          · rintro w0 h1_; go_simp; (try with_reducible rfl)
          try simp only [Act.put, List.getElem_toArray, List.getElem_cons_succ, List.getElem_cons_zero, List.setIfInBounds_toArray, List.set_cons_zero, List.set_cons_succ]
          refine wpAnyL_take (i := 4) (v := ?_) rfl (by kernel_rfl) (by kernel_rfl) (by kernel_rfl) (by kernel_rfl) (by kernel_rfl) (fun _ _ _ h => h) (Or.inl ⟨by kernel_rfl, ?_⟩) s0 ?_
          rotate_left
          · rintro w0 h1_; go_simp; (try with_reducible rfl)
          try simp only [Act.put, List.getElem_toArray, List.getElem_cons_succ, List.getElem_cons_zero, List.setIfInBounds_toArray, List.set_cons_zero, List.set_cons_succ]
          refine wpAnyL_take (i := 5) (v := ?_) rfl (by kernel_rfl) (by kernel_rfl) (by kernel_rfl) (by kernel_rfl) (by kernel_rfl) (fun _ _ _ h => h) (Or.inl ⟨by kernel_rfl, ?_⟩) s0 ?_
          rotate_left
          · rintro w0 h1_; go_simp; (try with_reducible rfl)
          try simp only [Act.put, List.getElem_toArray, List.getElem_cons_succ, List.getElem_cons_zero, List.setIfInBounds_toArray, List.set_cons_zero, List.set_cons_succ]
          refine wpAnyL_take (i := 6) (v := ?_) rfl (by kernel_rfl) (by kernel_rfl) (by kernel_rfl) (by kernel_rfl) (by kernel_rfl) (fun _ _ _ h => h) (Or.inl ⟨by kernel_rfl, ?_⟩) s0 ?_
          rotate_left
          · rintro w0 h1_; go_simp; (try with_reducible rfl)
          try simp only [Act.put, List.getElem_toArray, List.getElem_cons_succ, List.getElem_cons_zero, List.setIfInBounds_toArray, List.set_cons_zero, List.set_cons_succ]
          refine wpAnyL_one (i := 3) (by kernel_rfl) rfl (fun K hK => ?_)
          go_simp
          refine (save_te E x.gen HOK.out.gen (by omega) (by omega)).mono ?_; rintro e w6 ⟨rfl, E6⟩
          have s1 : (fun w' : World => w'.cell? ⟨ga, 1, none⟩ = some (.int .u32 (x.gen : Int))) w6 := E6.cell 0 1 rfl rfl
          go_wp2_with fail
          refine hK.out _ _ (fun _ => s1) ?_
          clear hK K
          try simp only [Act.put, List.getElem_toArray, List.getElem_cons_succ, List.getElem_cons_zero, List.setIfInBounds_toArray, List.set_cons_zero, List.set_cons_succ]
          refine wpAnyL_one (i := 7) (by kernel_rfl) rfl (fun K hK => ?_)
          go_simp
          refine (rsave_te E6 x.gen HOK.out.gen (by omega) (by omega)).mono ?_; rintro e w7 ⟨rfl, E7⟩
          have s2 : (fun w' : World => w'.cell? ⟨ga, 1, none⟩ = some (.int .u32 (x.gen : Int))) w7 := E7.cell 0 1 rfl rfl
          go_wp2_with fail
          refine hK.out _ _ (fun _ => s2) ?_
          clear hK K
          try simp only [Act.put, List.getElem_toArray, List.getElem_cons_succ, List.getElem_cons_zero, List.setIfInBounds_toArray, List.set_cons_zero, List.set_cons_succ]
          refine wpAnyL_one (i := 8) (by kernel_rfl) rfl (fun K hK => ?_)
          go_simp
          refine hK.out _ _ (fun _ => s2) ?_
          clear hK K
          try simp only [Act.put, List.getElem_toArray, List.getElem_cons_succ, List.getElem_cons_zero, List.setIfInBounds_toArray, List.set_cons_zero, List.set_cons_succ]
          refine wpAnyL_one (i := 9) (by kernel_rfl) rfl (fun K hK => ?_)
          go_simp
          refine hK.out _ _ (fun h => absurd (by simp) h) ?_
          clear hK K
          try simp only [Act.put, List.getElem_toArray, List.getElem_cons_succ, List.getElem_cons_zero, List.setIfInBounds_toArray, List.set_cons_zero, List.set_cons_succ]
          refine wpAnyL_done (by kernel_rfl) ?_ _
          have HT := Lib.hid (And.intro E7.forget (save_more_ s x.gen))
          clear E E6 E7 s0 s1 s2
          generalize (s.save x.gen).1 = s9 at *
          generalize (s.save x.gen).2 = cd9 at *
          go_wp2_with fail
          go_meet
          exact ⟨by simp, s9, HT.out.1, by have := HT.out.2; omega, by have := HT.out.2; omega⟩
        have q0 : (x.k == 0) = false := by simpa using hk0
        by_cases hk1_ : x.k = 1
        · have q1 : (x.k == 1) = true := by simp [hk1_]
          have k1 : w4.cell? ⟨ga, 1, none⟩ = some (.int .u32 (x.gen : Int)) := E.cell 0 1 rfl rfl
          clear hk0 hk1_ k0
          go_wp2_with fail
          refine (rsector_any x.gen HOK.out.gen _).mono ?_; rintro e w5 ⟨A5, c5, rfl, ho, hb5⟩
          have E5 := E.below hb5
          clear E hb5 k1
          have E := E5
          clear E5
          go_wp2_with fail
          have E := E.drew
          have ho := ho.below ((Below.refl _ _).drew)
          generalize hwd : World.drew _ = w5 at *
          have s0 : (fun w' : World => w'.cell? ⟨ga, 2, none⟩ = some (.int .i64 x.i)) w5 := E.cell 0 2 rfl rfl
          refine wp_region_late [11] (fun w' : World => w'.cell? ⟨ga, 2, none⟩ = some (.int .i64 x.i)) (by kernel_rfl) ?_
          rw [hwd]
          clear hwd
          refine wpAnyL_take (i := 0) (v := ?_) rfl (by kernel_rfl) (by kernel_rfl) (by kernel_rfl) (by kernel_rfl) (by kernel_rfl) (fun _ _ _ h => h) (Or.inl ⟨by kernel_rfl, ?_⟩) s0 ?_
          rotate_left
          · rintro w0 h1_; go_simp; (try with_reducible rfl)
          try simp only [Act.put, List.getElem_toArray, List.getElem_cons_succ, List.getElem_cons_zero, List.setIfInBounds_toArray, List.set_cons_zero, List.set_cons_succ]
          refine wpAnyL_take (i := 1) (v := ?_) rfl (by kernel_rfl) (by kernel_rfl) (by kernel_rfl) (by kernel_rfl) (by kernel_rfl) (fun _ _ _ h => h) (Or.inl ⟨by kernel_rfl, ?_⟩) s0 ?_
          rotate_left
          · rintro w0 h1_; go_simp; (try with_reducible rfl)
          try simp only [Act.put, List.getElem_toArray, List.getElem_cons_succ, List.getElem_cons_zero, List.setIfInBounds_toArray, List.set_cons_zero, List.set_cons_succ]
          refine wpAnyL_take (i := 2) (v := ?_) rfl (by kernel_rfl) (by kernel_rfl) (by kernel_rfl) (by kernel_rfl) (by kernel_rfl) (fun _ _ _ h => h) (Or.inl ⟨by kernel_rfl, ?_⟩) s0 ?_
          rotate_left
          · rintro w0 h1_; go_simp; (try with_reducible rfl)
          try simp only [Act.put, List.getElem_toArray, List.getElem_cons_succ, List.getElem_cons_zero, List.setIfInBounds_toArray, List.set_cons_zero, List.set_cons_succ]
          refine wpAnyL_take (i := 3) (v := ?_) rfl (by kernel_rfl) (by kernel_rfl) (by kernel_rfl) (by kernel_rfl) (by kernel_rfl) (fun _ _ _ h => h) (Or.inl ⟨by kernel_rfl, ?_⟩) s0 ?_
          rotate_left
          · rintro w0 h1_; go_simp; (try with_reducible rfl)
          try simp only [Act.put, List.getElem_toArray, List.getElem_cons_succ, List.getElem_cons_zero, List.setIfInBounds_toArray, List.set_cons_zero, List.set_cons_succ]
          refine wpAnyL_take (i := 5) (v := ?_) rfl (by kernel_rfl) (by kernel_rfl) (by kernel_rfl) (by kernel_rfl) (by kernel_rfl) (fun _ _ _ h => h) (Or.inl ⟨by kernel_rfl, ?_⟩) s0 ?_
          rotate_left
          · rintro w0 h1_; go_simp; (try with_reducible rfl)
          try simp only [Act.put, List.getElem_toArray, List.getElem_cons_succ, List.getElem_cons_zero, List.setIfInBounds_toArray, List.set_cons_zero, List.set_cons_succ]
          refine wpAnyL_take (i := 6) (v := ?_) rfl (by kernel_rfl) (by kernel_rfl) (by kernel_rfl) (by kernel_rfl) (by kernel_rfl) (fun _ _ _ h => h) (Or.inl ⟨by kernel_rfl, ?_⟩) s0 ?_
          rotate_left
          · rintro w0 h1_; go_simp; (try with_reducible rfl)
          try simp only [Act.put, List.getElem_toArray, List.getElem_cons_succ, List.getElem_cons_zero, List.setIfInBounds_toArray, List.set_cons_zero, List.set_cons_succ]
          refine wpAnyL_take (i := 7) (v := ?_) rfl (by kernel_rfl) (by kernel_rfl) (by kernel_rfl) (by kernel_rfl) (by kernel_rfl) (fun _ _ _ h => h) (Or.inl ⟨by kernel_rfl, ?_⟩) s0 ?_
          rotate_left
          · rintro w0 h1_; go_simp; (try with_reducible rfl)
          try simp only [Act.put, List.getElem_toArray, List.getElem_cons_succ, List.getElem_cons_zero, List.setIfInBounds_toArray, List.set_cons_zero, List.set_cons_succ]
          refine wpAnyL_take (i := 8) (v := ?_) rfl (by kernel_rfl) (by kernel_rfl) (by kernel_rfl) (by kernel_rfl) (by kernel_rfl) (fun _ _ _ h => h) (Or.inl ⟨by kernel_rfl, ?_⟩) s0 ?_
          rotate_left
          · rintro w0 h1_; go_simp; (try with_reducible rfl)
          try simp only [Act.put, List.getElem_toArray, List.getElem_cons_succ, List.getElem_cons_zero, List.setIfInBounds_toArray, List.set_cons_zero, List.set_cons_succ]
          refine wpAnyL_one (i := 4) (by kernel_rfl) rfl (fun K hK => ?_)
          go_simp
          refine (dwrite_te E x.i ho (by decide) (by omega) (by omega)).mono ?_; rintro e w6 ⟨rfl, E6, ho6⟩
          have s1 : (fun w' : World => w'.cell? ⟨ga, 2, none⟩ = some (.int .i64 x.i)) w6 := E6.cell 0 2 rfl rfl
          go_wp2_with fail
          refine hK.out _ _ (fun _ => s1) ?_
          clear hK K
          try simp only [Act.put, List.getElem_toArray, List.getElem_cons_succ, List.getElem_cons_zero, List.setIfInBounds_toArray, List.set_cons_zero, List.set_cons_succ]
          refine wpAnyL_one (i := 9) (by kernel_rfl) rfl (fun K hK => ?_)
          go_simp
          refine (rwrite_te E6 x.i ho6 (by decide) (by omega) (by omega)).mono ?_; rintro e w7 ⟨rfl, E7⟩
          have s2 : (fun w' : World => w'.cell? ⟨ga, 2, none⟩ = some (.int .i64 x.i)) w7 := E7.cell 0 2 rfl rfl
          go_wp2_with fail
          refine hK.out _ _ (fun _ => s2) ?_
          clear hK K
          try simp only [Act.put, List.getElem_toArray, List.getElem_cons_succ, List.getElem_cons_zero, List.setIfInBounds_toArray, List.set_cons_zero, List.set_cons_succ]
          refine wpAnyL_one (i := 10) (by kernel_rfl) rfl (fun K hK => ?_)
          go_simp
          refine hK.out _ _ (fun _ => s2) ?_
          clear hK K
          try simp only [Act.put, List.getElem_toArray, List.getElem_cons_succ, List.getElem_cons_zero, List.setIfInBounds_toArray, List.set_cons_zero, List.set_cons_succ]
          refine wpAnyL_one (i := 11) (by kernel_rfl) rfl (fun K hK => ?_)
          go_simp
          refine hK.out _ _ (fun h => absurd (by simp) h) ?_
          clear hK K
          try simp only [Act.put, List.getElem_toArray, List.getElem_cons_succ, List.getElem_cons_zero, List.setIfInBounds_toArray, List.set_cons_zero, List.set_cons_succ]
          refine wpAnyL_done (by kernel_rfl) ?_ _
          have HT := Lib.hid (And.intro E7.forget (wr_begun s x.i (rootS x.gen)))
          clear E E6 E7 s0 s1 s2 ho ho6
          generalize (s.write x.i (rootS x.gen)).1 = s9 at *
          generalize (s.write x.i (rootS x.gen)).2 = cd9 at *
          go_wp2_with fail
          go_meet
          exact ⟨by simp, s9, HT.out.1, by have := HT.out.2; omega, by have := HT.out.2; omega⟩
        have q1 : (x.k == 1) = false := by simpa using hk1_
        by_cases hk2_ : x.k = 2
        · have q2 : (x.k == 2) = true := by simp [hk2_]
          have k1 : w4.cell? ⟨ga, 2, none⟩ = some (.int .i64 x.i) := E.cell 0 2 rfl rfl
          clear hk0 hk1_ hk2_ k0
          go_wp2_with fail
          refine (dplan_te E x.i (by have := HOK.out.i1; omega)).mono ?_; rintro e w5 ⟨⟨_, rfl⟩, E5⟩
          clear E k1
          have k1 : w5.cell? ⟨ga, 2, none⟩ = some (.int .i64 x.i) := E5.cell 0 2 rfl rfl
          go_wp2_with fail
          refine (rplan_te E5 x.i (by have := HOK.out.i1; omega) HOK.out.i0).mono ?_; rintro e w6 ⟨⟨_, rfl⟩, E6⟩
          have HT := Lib.hid E6.forget
          clear E5 E6 k1
          go_wp2_with fail
          go_meet
          exact ⟨rfl, _, HT.out, Nat.zero_le _, by show s.pend.length ≤ _; omega⟩
        have q2 : (x.k == 2) = false := by simpa using hk2_
        by_cases hk3_ : x.k = 3
        · have q3 : (x.k == 3) = true := by simp [hk3_]
          have k1 : w4.cell? ⟨ga, 3, none⟩ = some (.slice x.A x.n x.cp) := E.cell 0 3 rfl rfl
          clear hk0 hk1_ hk2_ hk3_ k0
          go_wp2_with fail
          refine (dup_te E HOK.out.ints (by have := HCN.out; omega)).mono ?_; rintro e w5 ⟨⟨_, rfl⟩, E5⟩
          clear E k1
          have k1 : w5.cell? ⟨ga, 3, none⟩ = some (.slice x.A x.n x.cp) := E5.cell 0 3 rfl rfl
          go_wp2_with fail
          refine (rup_te E5 HOK.out.ints (by have := HCN.out; omega) (by omega)).mono ?_; rintro e w6 ⟨⟨_, rfl⟩, E6⟩
          have HT := Lib.hid E6.forget
          clear E5 E6 k1
          go_wp2_with fail
          go_meet
          exact ⟨rfl, _, HT.out, Nat.zero_le _, Nat.zero_le _⟩
        have q3 : (x.k == 3) = false := by simpa using hk3_
        have HT := Lib.hid E.forget
        clear hk0 hk1_ hk2_ hk3_ E
        go_wp2_with fail
        go_meet
        exact ⟨rfl, s, HT.out, by omega, by omega⟩
      case rest =>
        obtain ⟨rfl, s2, E2, hbg2, hpd2⟩ := hcut
        clear E
        go_wp2_with fail
        refine (load_te E2).mono ?_; rintro e w5 ⟨rfl, E5⟩
        clear E2
        go_wp2_with fail
        refine (rload_te E5 (by omega)).mono ?_; rintro e w6 ⟨rfl, E6⟩
        clear E5
        generalize s2.load.1 = lx at *
        generalize s2.load.2 = ly at *
        have x1 : ((lx : Int) != (lx : Int)) = false := by simp
        have x2 : (ly != ly) = false := by simp
        go_wp2_with fail
        refine (dimage_te E6).mono ?_; rintro e w7 ⟨A7, n7, c7, rfl, hI7, E7⟩
        clear E6
        go_wp2_with fail
        refine (rimage_te E7 hI7).mono ?_; rintro e w8 ⟨A8, n8, c8, rfl, hI8, hI7, E8⟩
        clear E7
        go_wp2_with fail
        refine (alike_any hI7 hI8).mono ?_; rintro e w9 ⟨⟨q, rfl⟩, rfl⟩
        have E9 := E8.drewN q
        have hq : decide (s2.sure = s2.sure) = true := by simp
        rw [hq]
        clear E8 hI7 hI8 hq x1 x2
        have HT := Lib.hid (And.intro E9 (And.intro hbg2 hpd2))
        clear E9
        go_wp2_with fail
        go_roundw
        case rel => exact ⟨i + 1, s2, by omega, by omega, by go_num, HT.out⟩
        case measure => simp [intOf]; omega
    · have HB := Lib.hid E.bel
      clear E
      by_cases hg1 : i < n1
      · have hlt1 : (i : Int) < (n1 : Int) := by omega
        have hlt2 : ¬ (i : Int) < 40 := by omega
        have hlt2d : decide ((i : Int) < 40) = false := decide_eq_false hlt2
        clear hgo hg1
        go_wp2_with fail
        go_ret
        exact ⟨rfl, HB.out⟩
      · have hlt1 : ¬ (i : Int) < (n1 : Int) := by omega
        have hlt1d : decide ((i : Int) < (n1 : Int)) = false := decide_eq_false hlt1
        clear hgo hg1
        go_wp2_with fail
        go_ret
        exact ⟨rfl, HB.out⟩
end Go.Proofs.YtfoeapjlklfjgaaDoor
