/- The law DiskPlays, walked. No condition but the reach of a slice. -/
import Derived.Test.YtkjmccicdjkccaaTwo
import Derived.Test.YtkjmccicdjkccaaDAwake
import Derived.Test.YtkjmccicdjkccaaLawAct
import Derived.Deep.CutBlock
namespace Go.Proofs.Ytkjmccicdjkccaa
set_option linter.unusedSimpArgs false
set_option linter.unusedVariables false
open Go.RowKit

theorem wr_begun2 (s : DSt) (i : Int) (l : List Nat) : (s.write i l).1.begun ≤ s.begun + 1 ∧ (s.write i l).1.pend.length ≤ s.pend.length + 1 := by
  unfold DSt.write
  dsimp only
  split
  · exact ⟨by show s.begun ≤ _; omega, by show s.pend.length ≤ _; omega⟩
  · split
    · split
      · exact ⟨Nat.le_refl _, by show s.pend.length ≤ _; omega⟩
      · exact ⟨Nat.le_refl _, by show (s.pend ++ _).length ≤ _; simp⟩
    · exact ⟨by show s.begun ≤ _; omega, by show s.pend.length ≤ _; omega⟩
theorem flush_begun2 (s : DSt) : s.flush.1.begun ≤ s.begun + 1 ∧ s.flush.1.pend.length ≤ s.pend.length := by
  unfold DSt.flush
  split
  · exact ⟨by show s.begun ≤ _; omega, Nat.le_refl _⟩
  · split
    · exact ⟨by show s.begun + 1 ≤ _; omega, Nat.le_refl _⟩
    · exact ⟨by show s.begun + 1 ≤ _; omega, Nat.zero_le _⟩

set_option maxRecDepth 100000 in
set_option maxHeartbeats 6400000 in
theorem do_te {w0 w : World} {g h : Nat} {s : DSt} (E : TE w0 w g h s s []) (x : ActEl) (hok : x.Ok w0) (hcn : x.n ≤ 300) (hbg : s.begun ≤ 100) (hpd : s.pend.length ≤ 100) :
    Calls Try.prog 22 #[.pointer (some ⟨g, 0, none⟩), .pointer (some ⟨h, 0, none⟩), .agg #[.int .i64 x.k, .int .i64 x.i, .int .u8 (x.c : Int), .bool x.bad, .slice x.A x.n x.cp]] w fun e w' => e = .returned (.bool true) ∧ ∃ s2, TE w0 w' g h s2 s2 [] ∧ s2.begun ≤ s.begun + 1 ∧ s2.pend.length ≤ s.pend.length + 1 := by
  have E2 := E.add 31 #[.int .i64 x.k, .int .i64 x.i, .int .u8 (x.c : Int), .bool x.bad, .slice x.A x.n x.cp]
  clear E
  have E := E2
  clear E2
  have HOK := Lib.hid hok
  have HCN := Lib.hid hcn
  clear hok hcn
  go_enter Try.func22, Try.ntmps22
  go_upto_region 1 with (fail)
  generalize w.alloc _ = w4 at *
  generalize w.heap.size = ga at *
  have k0 : w4.cell? ⟨ga, 0, none⟩ = some (.int .i64 x.k) := E.cell 0 0 rfl rfl
  by_cases hk0 : x.k = 0
  · have q0 : (x.k == 0) = true := by simp [hk0]
    have k1 : w4.cell? ⟨ga, 1, none⟩ = some (.int .i64 x.i) := E.cell 0 1 rfl rfl
    clear hk0
    have HL := Lib.hid (read_len_ E.wf x.i)
    go_wp2_with fail
    refine (dread_te E x.i).mono ?_; rintro e w5 ⟨A5, n5, c5, rfl, hI5, E5⟩
    have k1 : w5.cell? ⟨ga, 1, none⟩ = some (.int .i64 x.i) := E5.cell 0 1 rfl rfl
    go_wp2_with fail
    refine (rread_te E5 x.i (by omega)).mono ?_; rintro e w6 ⟨A6, n6, c6, rfl, hI6, rfl⟩
    have hl5 := hI5.len
    have hl6 := hI6.len
    have hl := HL.out
    have HI := Lib.hid (And.intro hI5 (And.intro hI6 E5))
    clear HL hI5 hI6 E E5 k0 k1
    generalize (s.read x.i).1 = lr at *
    generalize (s.read x.i).2 = cr at *
    have ec : (cr == cr) = true := by simp
    go_wp2_with fail
    refine (rows_any _ _ _ _ _ _ _ _ _ HI.out.1 HI.out.2.1 (by omega) (by omega)).mono ?_; rintro e w7 ⟨⟨q, rfl⟩, rfl⟩
    rw [show decide (lr = lr) = true by simp]
    have HT := Lib.hid (HI.out.2.2.drewN q).forget
    clear HI hl5 hl6 hl
    go_wp2_with fail
    go_ret
    exact ⟨rfl, s, HT.out, by omega, by omega⟩
  have q0 : (x.k == 0) = false := by simpa using hk0
  by_cases hk1_ : x.k = 1
  · have q1 : (x.k == 1) = true := by simp [hk1_]
    clear hk0 hk1_
    go_wp2_with fail
    have E := E.drew
    generalize hwd : World.drew _ = w5 at *
    have s0 : (fun w' : World => w'.cell? ⟨ga, 1, none⟩ = some (.int .i64 x.i) ∧ w'.cell? ⟨ga, 2, none⟩ = some (.int .u8 (x.c : Int)) ∧ w'.cell? ⟨ga, 3, none⟩ = some (.bool x.bad)) w5 := ⟨E.cell 0 1 rfl rfl, E.cell 0 2 rfl rfl, E.cell 0 3 rfl rfl⟩
    refine wp_region_late [19] (fun w' : World => w'.cell? ⟨ga, 1, none⟩ = some (.int .i64 x.i) ∧ w'.cell? ⟨ga, 2, none⟩ = some (.int .u8 (x.c : Int)) ∧ w'.cell? ⟨ga, 3, none⟩ = some (.bool x.bad)) (by kernel_rfl) ?_
    rw [hwd]
    clear hwd
    refine wpAnyL_take (i := 0) (v := ?_) rfl (by kernel_rfl) (by kernel_rfl) (by kernel_rfl) (by kernel_rfl) (by kernel_rfl) (fun _ _ _ h => h) (Or.inl ⟨by kernel_rfl, ?_⟩) s0 ?_
    rotate_left
    · rintro w0 ⟨h1_, h2_, h3_⟩; go_simp; (try with_reducible rfl)
    try simp only [Act.put, List.getElem_toArray, List.getElem_cons_succ, List.getElem_cons_zero, List.setIfInBounds_toArray, List.set_cons_zero, List.set_cons_succ]
    refine wpAnyL_take (i := 1) (v := ?_) rfl (by kernel_rfl) (by kernel_rfl) (by kernel_rfl) (by kernel_rfl) (by kernel_rfl) (fun _ _ _ h => h) (Or.inl ⟨by kernel_rfl, ?_⟩) s0 ?_
    rotate_left
    · rintro w0 ⟨h1_, h2_, h3_⟩; go_simp; (try with_reducible rfl)
    try simp only [Act.put, List.getElem_toArray, List.getElem_cons_succ, List.getElem_cons_zero, List.setIfInBounds_toArray, List.set_cons_zero, List.set_cons_succ]
    refine wpAnyL_take (i := 2) (v := ?_) rfl (by kernel_rfl) (by kernel_rfl) (by kernel_rfl) (by kernel_rfl) (by kernel_rfl) (fun _ _ _ h => h) (Or.inl ⟨by kernel_rfl, ?_⟩) s0 ?_
    rotate_left
    · rintro w0 ⟨h1_, h2_, h3_⟩; go_simp; (try with_reducible rfl)
    try simp only [Act.put, List.getElem_toArray, List.getElem_cons_succ, List.getElem_cons_zero, List.setIfInBounds_toArray, List.set_cons_zero, List.set_cons_succ]
    refine wpAnyL_take (i := 3) (v := ?_) rfl (by kernel_rfl) (by kernel_rfl) (by kernel_rfl) (by kernel_rfl) (by kernel_rfl) (fun _ _ _ h => h) (Or.inl ⟨by kernel_rfl, ?_⟩) s0 ?_
    rotate_left
    · rintro w0 ⟨h1_, h2_, h3_⟩; go_simp; (try with_reducible rfl)
    try simp only [Act.put, List.getElem_toArray, List.getElem_cons_succ, List.getElem_cons_zero, List.setIfInBounds_toArray, List.set_cons_zero, List.set_cons_succ]
    refine wpAnyL_take (i := 4) (v := ?_) rfl (by kernel_rfl) (by kernel_rfl) (by kernel_rfl) (by kernel_rfl) (by kernel_rfl) (fun _ _ _ h => h) (Or.inl ⟨by kernel_rfl, ?_⟩) s0 ?_
    rotate_left
    · rintro w0 ⟨h1_, h2_, h3_⟩; go_simp; (try with_reducible rfl)
    try simp only [Act.put, List.getElem_toArray, List.getElem_cons_succ, List.getElem_cons_zero, List.setIfInBounds_toArray, List.set_cons_zero, List.set_cons_succ]
    refine wpAnyL_take (i := 5) (v := ?_) rfl (by kernel_rfl) (by kernel_rfl) (by kernel_rfl) (by kernel_rfl) (by kernel_rfl) (fun _ _ _ h => h) (Or.inl ⟨by kernel_rfl, ?_⟩) s0 ?_
    rotate_left
    · rintro w0 ⟨h1_, h2_, h3_⟩; go_simp; (try with_reducible rfl)
    try simp only [Act.put, List.getElem_toArray, List.getElem_cons_succ, List.getElem_cons_zero, List.setIfInBounds_toArray, List.set_cons_zero, List.set_cons_succ]
    refine wpAnyL_take (i := 6) (v := ?_) rfl (by kernel_rfl) (by kernel_rfl) (by kernel_rfl) (by kernel_rfl) (by kernel_rfl) (fun _ _ _ h => h) (Or.inl ⟨by kernel_rfl, ?_⟩) s0 ?_
    rotate_left
    · rintro w0 ⟨h1_, h2_, h3_⟩; go_simp; (try with_reducible rfl)
    try simp only [Act.put, List.getElem_toArray, List.getElem_cons_succ, List.getElem_cons_zero, List.setIfInBounds_toArray, List.set_cons_zero, List.set_cons_succ]
    refine wpAnyL_take (i := 9) (v := ?_) rfl (by kernel_rfl) (by kernel_rfl) (by kernel_rfl) (by kernel_rfl) (by kernel_rfl) (fun _ _ _ h => h) (Or.inl ⟨by kernel_rfl, ?_⟩) s0 ?_
    rotate_left
    · rintro w0 ⟨h1_, h2_, h3_⟩; go_simp; (try with_reducible rfl)
    try simp only [Act.put, List.getElem_toArray, List.getElem_cons_succ, List.getElem_cons_zero, List.setIfInBounds_toArray, List.set_cons_zero, List.set_cons_succ]
    refine wpAnyL_take (i := 10) (v := ?_) rfl (by kernel_rfl) (by kernel_rfl) (by kernel_rfl) (by kernel_rfl) (by kernel_rfl) (fun _ _ _ h => h) (Or.inl ⟨by kernel_rfl, ?_⟩) s0 ?_
    rotate_left
    · rintro w0 ⟨h1_, h2_, h3_⟩; go_simp; (try with_reducible rfl)
    try simp only [Act.put, List.getElem_toArray, List.getElem_cons_succ, List.getElem_cons_zero, List.setIfInBounds_toArray, List.set_cons_zero, List.set_cons_succ]
    refine wpAnyL_take (i := 11) (v := ?_) rfl (by kernel_rfl) (by kernel_rfl) (by kernel_rfl) (by kernel_rfl) (by kernel_rfl) (fun _ _ _ h => h) (Or.inl ⟨by kernel_rfl, ?_⟩) s0 ?_
    rotate_left
    · rintro w0 ⟨h1_, h2_, h3_⟩; go_simp; (try with_reducible rfl)
    try simp only [Act.put, List.getElem_toArray, List.getElem_cons_succ, List.getElem_cons_zero, List.setIfInBounds_toArray, List.set_cons_zero, List.set_cons_succ]
    refine wpAnyL_take (i := 12) (v := ?_) rfl (by kernel_rfl) (by kernel_rfl) (by kernel_rfl) (by kernel_rfl) (by kernel_rfl) (fun _ _ _ h => h) (Or.inl ⟨by kernel_rfl, ?_⟩) s0 ?_
    rotate_left
    · rintro w0 ⟨h1_, h2_, h3_⟩; go_simp; (try with_reducible rfl)
    try simp only [Act.put, List.getElem_toArray, List.getElem_cons_succ, List.getElem_cons_zero, List.setIfInBounds_toArray, List.set_cons_zero, List.set_cons_succ]
    refine wpAnyL_take (i := 13) (v := ?_) rfl (by kernel_rfl) (by kernel_rfl) (by kernel_rfl) (by kernel_rfl) (by kernel_rfl) (fun _ _ _ h => h) (Or.inl ⟨by kernel_rfl, ?_⟩) s0 ?_
    rotate_left
    · rintro w0 ⟨h1_, h2_, h3_⟩; go_simp; (try with_reducible rfl)
    try simp only [Act.put, List.getElem_toArray, List.getElem_cons_succ, List.getElem_cons_zero, List.setIfInBounds_toArray, List.set_cons_zero, List.set_cons_succ]
    refine wpAnyL_take (i := 14) (v := ?_) rfl (by kernel_rfl) (by kernel_rfl) (by kernel_rfl) (by kernel_rfl) (by kernel_rfl) (fun _ _ _ h => h) (Or.inl ⟨by kernel_rfl, ?_⟩) s0 ?_
    rotate_left
    · rintro w0 ⟨h1_, h2_, h3_⟩; go_simp; (try with_reducible rfl)
    try simp only [Act.put, List.getElem_toArray, List.getElem_cons_succ, List.getElem_cons_zero, List.setIfInBounds_toArray, List.set_cons_zero, List.set_cons_succ]
    refine wpAnyL_take (i := 15) (v := ?_) rfl (by kernel_rfl) (by kernel_rfl) (by kernel_rfl) (by kernel_rfl) (by kernel_rfl) (fun _ _ _ h => h) (Or.inl ⟨by kernel_rfl, ?_⟩) s0 ?_
    rotate_left
    · rintro w0 ⟨h1_, h2_, h3_⟩; go_simp; (try with_reducible rfl)
    try simp only [Act.put, List.getElem_toArray, List.getElem_cons_succ, List.getElem_cons_zero, List.setIfInBounds_toArray, List.set_cons_zero, List.set_cons_succ]
    refine wpAnyL_one (i := 7) (by kernel_rfl) rfl (fun K hK => ?_)
    go_simp
    refine (row_any x.c HOK.out.c x.bad _).mono ?_; rintro e w6 ⟨A6, n6, c6, rfl, ho6, hn6, hb6⟩
    have E6 := E.below hb6
    have s1 : (fun w' : World => w'.cell? ⟨ga, 1, none⟩ = some (.int .i64 x.i) ∧ w'.cell? ⟨ga, 2, none⟩ = some (.int .u8 (x.c : Int)) ∧ w'.cell? ⟨ga, 3, none⟩ = some (.bool x.bad)) w6 := ⟨E6.cell 0 1 rfl rfl, E6.cell 0 2 rfl rfl, E6.cell 0 3 rfl rfl⟩
    go_wp2_with fail
    refine hK.out _ _ (fun _ => s1) ?_
    clear hK K
    try simp only [Act.put, List.getElem_toArray, List.getElem_cons_succ, List.getElem_cons_zero, List.setIfInBounds_toArray, List.set_cons_zero, List.set_cons_succ]
    refine wpAnyL_one (i := 8) (by kernel_rfl) rfl (fun K hK => ?_)
    go_simp
    refine (dwrite_te E6 x.i ho6 (by omega) (by omega) (by omega)).mono ?_; rintro e w7 ⟨rfl, E7, ho7⟩
    have s2 : (fun w' : World => w'.cell? ⟨ga, 1, none⟩ = some (.int .i64 x.i) ∧ w'.cell? ⟨ga, 2, none⟩ = some (.int .u8 (x.c : Int)) ∧ w'.cell? ⟨ga, 3, none⟩ = some (.bool x.bad)) w7 := ⟨E7.cell 0 1 rfl rfl, E7.cell 0 2 rfl rfl, E7.cell 0 3 rfl rfl⟩
    go_wp2_with fail
    refine hK.out _ _ (fun _ => s2) ?_
    clear hK K
    try simp only [Act.put, List.getElem_toArray, List.getElem_cons_succ, List.getElem_cons_zero, List.setIfInBounds_toArray, List.set_cons_zero, List.set_cons_succ]
    refine wpAnyL_one (i := 16) (by kernel_rfl) rfl (fun K hK => ?_)
    go_simp
    refine (row_any x.c HOK.out.c x.bad _).mono ?_; rintro e w8 ⟨A8, n8, c8, rfl, ho8, hn8, hb8⟩
    have E8 := E7.below hb8
    have s3 : (fun w' : World => w'.cell? ⟨ga, 1, none⟩ = some (.int .i64 x.i) ∧ w'.cell? ⟨ga, 2, none⟩ = some (.int .u8 (x.c : Int)) ∧ w'.cell? ⟨ga, 3, none⟩ = some (.bool x.bad)) w8 := ⟨E8.cell 0 1 rfl rfl, E8.cell 0 2 rfl rfl, E8.cell 0 3 rfl rfl⟩
    go_wp2_with fail
    refine hK.out _ _ (fun _ => s3) ?_
    clear hK K
    try simp only [Act.put, List.getElem_toArray, List.getElem_cons_succ, List.getElem_cons_zero, List.setIfInBounds_toArray, List.set_cons_zero, List.set_cons_succ]
    refine wpAnyL_one (i := 17) (by kernel_rfl) rfl (fun K hK => ?_)
    go_simp
    refine (rwrite_te E8 x.i ho8 (by omega) (by omega) (by omega)).mono ?_; rintro e w9 ⟨rfl, E9⟩
    have s4 : (fun w' : World => w'.cell? ⟨ga, 1, none⟩ = some (.int .i64 x.i) ∧ w'.cell? ⟨ga, 2, none⟩ = some (.int .u8 (x.c : Int)) ∧ w'.cell? ⟨ga, 3, none⟩ = some (.bool x.bad)) w9 := ⟨E9.cell 0 1 rfl rfl, E9.cell 0 2 rfl rfl, E9.cell 0 3 rfl rfl⟩
    go_wp2_with fail
    refine hK.out _ _ (fun _ => s4) ?_
    clear hK K
    try simp only [Act.put, List.getElem_toArray, List.getElem_cons_succ, List.getElem_cons_zero, List.setIfInBounds_toArray, List.set_cons_zero, List.set_cons_succ]
    refine wpAnyL_one (i := 18) (by kernel_rfl) rfl (fun K hK => ?_)
    go_simp
    refine hK.out _ _ (fun _ => s4) ?_
    clear hK K
    try simp only [Act.put, List.getElem_toArray, List.getElem_cons_succ, List.getElem_cons_zero, List.setIfInBounds_toArray, List.set_cons_zero, List.set_cons_succ]
    refine wpAnyL_one (i := 19) (by kernel_rfl) rfl (fun K hK => ?_)
    go_simp
    refine hK.out _ _ (fun h => absurd (by simp) h) ?_
    clear hK K
    try simp only [Act.put, List.getElem_toArray, List.getElem_cons_succ, List.getElem_cons_zero, List.setIfInBounds_toArray, List.set_cons_zero, List.set_cons_succ]
    refine wpAnyL_done (by kernel_rfl) ?_ _
    have HT := Lib.hid (And.intro E9.forget (wr_begun2 s x.i (rowL x.c x.bad)))
    clear E E6 E7 E8 E9 s0 s1 s2 s3 s4 ho6 ho7 ho8 hb6 hb8
    generalize (s.write x.i (rowL x.c x.bad)).1 = s9 at *
    generalize (s.write x.i (rowL x.c x.bad)).2 = cd9 at *
    go_wp2_with fail
    go_ret
    exact ⟨by simp, s9, HT.out.1, HT.out.2.1, HT.out.2.2⟩
  have q1 : (x.k == 1) = false := by simpa using hk1_
  by_cases hk2_ : x.k = 2
  · have q2 : (x.k == 2) = true := by simp [hk2_]
    clear hk0 hk1_ hk2_
    go_wp2_with fail
    refine (dflush_te E (by omega)).mono ?_; rintro e w5 ⟨rfl, E5⟩
    clear E k0
    go_wp2_with fail
    refine (rflush_te E5 (by omega) (by omega)).mono ?_; rintro e w6 ⟨rfl, E6⟩
    have HT := Lib.hid (And.intro E6.forget (flush_begun2 s))
    clear E5 E6
    generalize s.flush.1 = s9 at *
    generalize s.flush.2 = cd9 at *
    have ec : (cd9 == cd9) = true := by simp
    go_wp2_with fail
    go_ret
    exact ⟨by simp, s9, HT.out.1, HT.out.2.1, by have := HT.out.2.2; omega⟩
  have q2 : (x.k == 2) = false := by simpa using hk2_
  by_cases hk3_ : x.k = 3
  · have q3 : (x.k == 3) = true := by simp [hk3_]
    have k1 : w4.cell? ⟨ga, 1, none⟩ = some (.int .i64 x.i) := E.cell 0 1 rfl rfl
    clear hk0 hk1_ hk2_ hk3_
    go_wp2_with fail
    refine (dplan_te E x.i (by have := HOK.out.i1; omega)).mono ?_; rintro e w5 ⟨⟨_, rfl⟩, E5⟩
    clear E k1 k0
    have k1 : w5.cell? ⟨ga, 1, none⟩ = some (.int .i64 x.i) := E5.cell 0 1 rfl rfl
    go_wp2_with fail
    refine (rplan_te E5 x.i (by have := HOK.out.i1; omega) HOK.out.i0).mono ?_; rintro e w6 ⟨⟨_, rfl⟩, E6⟩
    have HT := Lib.hid E6.forget
    clear E5 E6 k1
    go_wp2_with fail
    go_ret
    exact ⟨rfl, _, HT.out, Nat.zero_le _, by show s.pend.length ≤ _; omega⟩
  have q3 : (x.k == 3) = false := by simpa using hk3_
  by_cases hk4_ : x.k = 4
  · have q4 : (x.k == 4) = true := by simp [hk4_]
    have k1 : w4.cell? ⟨ga, 4, none⟩ = some (.slice x.A x.n x.cp) := E.cell 0 4 rfl rfl
    clear hk0 hk1_ hk2_ hk3_ hk4_
    go_wp2_with fail
    refine (dup_te E HOK.out.ints (by have := HCN.out; omega)).mono ?_; rintro e w5 ⟨⟨_, rfl⟩, E5⟩
    clear E k1 k0
    have k1 : w5.cell? ⟨ga, 4, none⟩ = some (.slice x.A x.n x.cp) := E5.cell 0 4 rfl rfl
    go_wp2_with fail
    refine (rup_te E5 HOK.out.ints (by have := HCN.out; omega) (by omega)).mono ?_; rintro e w6 ⟨⟨_, rfl⟩, E6⟩
    have HT := Lib.hid E6.forget
    clear E5 E6 k1
    go_wp2_with fail
    go_ret
    exact ⟨rfl, _, HT.out, Nat.zero_le _, Nat.zero_le _⟩
  have q4 : (x.k == 4) = false := by simpa using hk4_
  have HT := Lib.hid E.forget
  clear hk0 hk1_ hk2_ hk3_ hk4_ E
  go_wp2_with fail
  go_ret
  exact ⟨rfl, s, HT.out, by omega, by omega⟩
end Go.Proofs.Ytkjmccicdjkccaa
