/- The contracts of package ratio: Add, Sub, Mul, Cmp, Div. No condition but the reach of a slice. -/
import Derived.Test.YticjhlbmdjijnaaGreatDoorHQC
namespace Go.Proofs.YticjhlbmdjijnaaGreatDoor
set_option linter.unusedSimpArgs false
set_option linter.unusedVariables false
open Go.RowKit

set_option maxRecDepth 100000 in
set_option maxHeartbeats 3200000 in
theorem qadd1 {w : World} {a b a' b' : Bool} {A B A' B' : Option Addr} {n c m d n' c' m' d' : Nat} {i j i' j' : Nat} {r s : Rat} (ha : ZIs w a A n c r.num i true) (hb : ZIs w b B m d (r.den : Int) j true) (ha' : ZIs w a' A' n' c' s.num i' true) (hb' : ZIs w b' B' m' d' (s.den : Int) j' true) {k : Nat} (hi : i ≤ k) (hj : j ≤ k) (hi' : i' ≤ k) (hj' : j' ≤ k) (hk : k ≤ 65536) : Calls Tryz.prog 75 #[.agg #[.bool a, .slice A n c, .bool b, .slice B m d], .agg #[.bool a', .slice A' n' c', .bool b', .slice B' m' d']] w fun e w' => ∃ b3 A3 n3 b4 A4 n4, e = .returned (.agg #[.bool b3, .slice A3 n3 n3, .bool b4, .slice A4 n4 n4]) ∧ ZIs w' b3 A3 n3 n3 ((r + s).num) (2 * k + 1) true ∧ ZIs w' b4 A4 n4 n4 (((r + s).den : Nat) : Int) (2 * k + 1) true ∧ Below w.heap.size w w' := by
  have R0 := (((((((Env.nil_ w).add ha).add hb).add ha').add hb').alloc 26 #[.bool a, .slice A n c, .bool b, .slice B m d] (g := w.heap.size) rfl rfl).alloc 26 #[.bool a', .slice A' n' c', .bool b', .slice B' m' d'] (g := w.heap.size + 1) (by simp) rfl).alloc 26 #[.bool false, .slice none 0 0, .bool false, .slice none 0 0] (g := w.heap.size + 1 + 1) (by simp) rfl
  go_enter Tryz.func75, Tryz.ntmps75
  go_wp2_with fail
  have D1 := R0.drew
  have s1 := And.intro (D1.cell 2 0 rfl rfl) (And.intro (D1.cell 2 1 rfl rfl) (And.intro (D1.cell 2 2 rfl rfl) (And.intro (D1.cell 2 3 rfl rfl) (And.intro (D1.cell 1 0 rfl rfl) (And.intro (D1.cell 1 1 rfl rfl) (And.intro (D1.cell 1 2 rfl rfl) (D1.cell 1 3 rfl rfl)))))))
  refine wp_region_late [17] (fun w' => w'.cell? ⟨w.heap.size, 0, none⟩ = some (.bool a) ∧ w'.cell? ⟨w.heap.size, 1, none⟩ = some (.slice A n c) ∧ w'.cell? ⟨w.heap.size, 2, none⟩ = some (.bool b) ∧ w'.cell? ⟨w.heap.size, 3, none⟩ = some (.slice B m d) ∧ w'.cell? ⟨w.heap.size + 1, 0, none⟩ = some (.bool a') ∧ w'.cell? ⟨w.heap.size + 1, 1, none⟩ = some (.slice A' n' c') ∧ w'.cell? ⟨w.heap.size + 1, 2, none⟩ = some (.bool b') ∧ w'.cell? ⟨w.heap.size + 1, 3, none⟩ = some (.slice B' m' d')) (by kernel_rfl) ?_
  refine wpAnyL_take (i := 0) (v := ?_) rfl (by kernel_rfl) (by kernel_rfl) (by kernel_rfl) (by kernel_rfl) (by kernel_rfl) (fun _ _ _ h => h) (Or.inl ⟨by kernel_rfl, ?_⟩) s1 ?_
  rotate_left
  · rintro w' ⟨h1, h2, h3, h4, h5, h6, h7, h8⟩; go_simp; (try with_reducible rfl)
  try simp only [Act.put, List.setIfInBounds_toArray, List.set_cons_zero, List.set_cons_succ]
  refine wpAnyL_take (i := 1) (v := .agg #[.bool a, .slice A n c]) rfl (by kernel_rfl) (by kernel_rfl) (by kernel_rfl) (by kernel_rfl) (by kernel_rfl) (fun _ _ _ h => h) (Or.inl ⟨by rfl, by rintro w' ⟨h1, h2, h3, h4, h5, h6, h7, h8⟩; go_simp⟩) s1 ?_
  try simp only [Act.put, List.setIfInBounds_toArray, List.set_cons_zero, List.set_cons_succ]
  refine wpAnyL_take (i := 2) (v := ?_) rfl (by kernel_rfl) (by kernel_rfl) (by kernel_rfl) (by kernel_rfl) (by kernel_rfl) (fun _ _ _ h => h) (Or.inl ⟨by kernel_rfl, ?_⟩) s1 ?_
  rotate_left
  · rintro w' ⟨h1, h2, h3, h4, h5, h6, h7, h8⟩; go_simp; (try with_reducible rfl)
  try simp only [Act.put, List.setIfInBounds_toArray, List.set_cons_zero, List.set_cons_succ]
  refine wpAnyL_take (i := 3) (v := .agg #[.bool b', .slice B' m' d']) rfl (by kernel_rfl) (by kernel_rfl) (by kernel_rfl) (by kernel_rfl) (by kernel_rfl) (fun _ _ _ h => h) (Or.inl ⟨by rfl, by rintro w' ⟨h1, h2, h3, h4, h5, h6, h7, h8⟩; go_simp⟩) s1 ?_
  try simp only [Act.put, List.setIfInBounds_toArray, List.set_cons_zero, List.set_cons_succ]
  refine wpAnyL_take (i := 5) (v := ?_) rfl (by kernel_rfl) (by kernel_rfl) (by kernel_rfl) (by kernel_rfl) (by kernel_rfl) (fun _ _ _ h => h) (Or.inl ⟨by kernel_rfl, ?_⟩) s1 ?_
  rotate_left
  · rintro w' ⟨h1, h2, h3, h4, h5, h6, h7, h8⟩; go_simp; (try with_reducible rfl)
  try simp only [Act.put, List.setIfInBounds_toArray, List.set_cons_zero, List.set_cons_succ]
  refine wpAnyL_take (i := 6) (v := .agg #[.bool a', .slice A' n' c']) rfl (by kernel_rfl) (by kernel_rfl) (by kernel_rfl) (by kernel_rfl) (by kernel_rfl) (fun _ _ _ h => h) (Or.inl ⟨by rfl, by rintro w' ⟨h1, h2, h3, h4, h5, h6, h7, h8⟩; go_simp⟩) s1 ?_
  try simp only [Act.put, List.setIfInBounds_toArray, List.set_cons_zero, List.set_cons_succ]
  refine wpAnyL_take (i := 7) (v := ?_) rfl (by kernel_rfl) (by kernel_rfl) (by kernel_rfl) (by kernel_rfl) (by kernel_rfl) (fun _ _ _ h => h) (Or.inl ⟨by kernel_rfl, ?_⟩) s1 ?_
  rotate_left
  · rintro w' ⟨h1, h2, h3, h4, h5, h6, h7, h8⟩; go_simp; (try with_reducible rfl)
  try simp only [Act.put, List.setIfInBounds_toArray, List.set_cons_zero, List.set_cons_succ]
  refine wpAnyL_take (i := 8) (v := .agg #[.bool b, .slice B m d]) rfl (by kernel_rfl) (by kernel_rfl) (by kernel_rfl) (by kernel_rfl) (by kernel_rfl) (fun _ _ _ h => h) (Or.inl ⟨by rfl, by rintro w' ⟨h1, h2, h3, h4, h5, h6, h7, h8⟩; go_simp⟩) s1 ?_
  try simp only [Act.put, List.setIfInBounds_toArray, List.set_cons_zero, List.set_cons_succ]
  refine wpAnyL_take (i := 11) (v := ?_) rfl (by kernel_rfl) (by kernel_rfl) (by kernel_rfl) (by kernel_rfl) (by kernel_rfl) (fun _ _ _ h => h) (Or.inl ⟨by kernel_rfl, ?_⟩) s1 ?_
  rotate_left
  · rintro w' ⟨h1, h2, h3, h4, h5, h6, h7, h8⟩; go_simp; (try with_reducible rfl)
  try simp only [Act.put, List.setIfInBounds_toArray, List.set_cons_zero, List.set_cons_succ]
  refine wpAnyL_take (i := 12) (v := .agg #[.bool b, .slice B m d]) rfl (by kernel_rfl) (by kernel_rfl) (by kernel_rfl) (by kernel_rfl) (by kernel_rfl) (fun _ _ _ h => h) (Or.inl ⟨by rfl, by rintro w' ⟨h1, h2, h3, h4, h5, h6, h7, h8⟩; go_simp⟩) s1 ?_
  try simp only [Act.put, List.setIfInBounds_toArray, List.set_cons_zero, List.set_cons_succ]
  refine wpAnyL_take (i := 13) (v := ?_) rfl (by kernel_rfl) (by kernel_rfl) (by kernel_rfl) (by kernel_rfl) (by kernel_rfl) (fun _ _ _ h => h) (Or.inl ⟨by kernel_rfl, ?_⟩) s1 ?_
  rotate_left
  · rintro w' ⟨h1, h2, h3, h4, h5, h6, h7, h8⟩; go_simp; (try with_reducible rfl)
  try simp only [Act.put, List.setIfInBounds_toArray, List.set_cons_zero, List.set_cons_succ]
  refine wpAnyL_take (i := 14) (v := .agg #[.bool b', .slice B' m' d']) rfl (by kernel_rfl) (by kernel_rfl) (by kernel_rfl) (by kernel_rfl) (by kernel_rfl) (fun _ _ _ h => h) (Or.inl ⟨by rfl, by rintro w' ⟨h1, h2, h3, h4, h5, h6, h7, h8⟩; go_simp⟩) s1 ?_
  try simp only [Act.put, List.setIfInBounds_toArray, List.set_cons_zero, List.set_cons_succ]
  refine wpAnyL_one (i := 4) (by kernel_rfl) rfl (fun K hK => ?_)
  go_simp
  refine (zmul (K := 2 * k) (D1.z 3 rfl) (D1.z 0 rfl) (by omega) (by omega) (by omega)).mono ?_; rintro e w2 ⟨b_x1, A_x1, n_x1, rfl, z_x1, hb2⟩
  have R2 := ((D1.below hb2).add z_x1)
  have s2 := And.intro (R2.cell 2 0 rfl rfl) (And.intro (R2.cell 2 1 rfl rfl) (And.intro (R2.cell 2 2 rfl rfl) (And.intro (R2.cell 2 3 rfl rfl) (And.intro (R2.cell 1 0 rfl rfl) (And.intro (R2.cell 1 1 rfl rfl) (And.intro (R2.cell 1 2 rfl rfl) (R2.cell 1 3 rfl rfl)))))))
  go_wp2_with fail
  refine hK.out _ _ (fun _ => s2) ?_
  clear hK K
  try simp only [Act.put, List.setIfInBounds_toArray, List.set_cons_zero, List.set_cons_succ]
  refine wpAnyL_one (i := 9) (by kernel_rfl) rfl (fun K hK => ?_)
  go_simp
  refine (zmul (K := 2 * k) (R2.z 2 rfl) (R2.z 3 rfl) (by omega) (by omega) (by omega)).mono ?_; rintro e w3 ⟨b_x2, A_x2, n_x2, rfl, z_x2, hb3⟩
  have R3 := ((R2.below hb3).add z_x2)
  have s3 := And.intro (R3.cell 2 0 rfl rfl) (And.intro (R3.cell 2 1 rfl rfl) (And.intro (R3.cell 2 2 rfl rfl) (And.intro (R3.cell 2 3 rfl rfl) (And.intro (R3.cell 1 0 rfl rfl) (And.intro (R3.cell 1 1 rfl rfl) (And.intro (R3.cell 1 2 rfl rfl) (R3.cell 1 3 rfl rfl)))))))
  go_wp2_with fail
  refine hK.out _ _ (fun _ => s3) ?_
  clear hK K
  try simp only [Act.put, List.setIfInBounds_toArray, List.set_cons_zero, List.set_cons_succ]
  refine wpAnyL_one (i := 10) (by kernel_rfl) rfl (fun K hK => ?_)
  go_simp
  refine (zadd (K := 2 * k + 1) (R3.z 1 rfl) (R3.z 0 rfl) (by omega) (by omega) (by omega)).mono ?_; rintro e w4 ⟨b_x3, A_x3, n_x3, rfl, z_x3, hb4⟩
  have R4 := ((R3.below hb4).add z_x3)
  have s4 := And.intro (R4.cell 2 0 rfl rfl) (And.intro (R4.cell 2 1 rfl rfl) (And.intro (R4.cell 2 2 rfl rfl) (And.intro (R4.cell 2 3 rfl rfl) (And.intro (R4.cell 1 0 rfl rfl) (And.intro (R4.cell 1 1 rfl rfl) (And.intro (R4.cell 1 2 rfl rfl) (R4.cell 1 3 rfl rfl)))))))
  go_wp2_with fail
  refine hK.out _ _ (fun _ => s4) ?_
  clear hK K
  try simp only [Act.put, List.setIfInBounds_toArray, List.set_cons_zero, List.set_cons_succ]
  refine wpAnyL_one (i := 15) (by kernel_rfl) rfl (fun K hK => ?_)
  go_simp
  refine (zmul (K := 2 * k) (R4.z 5 rfl) (R4.z 3 rfl) (by omega) (by omega) (by omega)).mono ?_; rintro e w5 ⟨b_x4, A_x4, n_x4, rfl, z_x4, hb5⟩
  have R5 := ((R4.below hb5).add z_x4)
  have s5 := And.intro (R5.cell 2 0 rfl rfl) (And.intro (R5.cell 2 1 rfl rfl) (And.intro (R5.cell 2 2 rfl rfl) (And.intro (R5.cell 2 3 rfl rfl) (And.intro (R5.cell 1 0 rfl rfl) (And.intro (R5.cell 1 1 rfl rfl) (And.intro (R5.cell 1 2 rfl rfl) (R5.cell 1 3 rfl rfl)))))))
  go_wp2_with fail
  refine hK.out _ _ (fun _ => s5) ?_
  clear hK K
  try simp only [Act.put, List.setIfInBounds_toArray, List.set_cons_zero, List.set_cons_succ]
  refine wpAnyL_one (i := 16) (by kernel_rfl) rfl (fun K hK => ?_)
  go_simp
  refine (qby (R5.z 1 rfl) (R5.z 0 rfl) (by omega) (by omega) (Int.ne_of_gt (qdd_pos r s)) (qadd_of r s)).mono ?_; rintro e w6 ⟨b_p, A_p, n_p, b_q, A_q, n_q, rfl, z_p, z_q, hb6⟩
  have R6 := (((R5.below hb6).add z_p).add z_q)
  have s6 := And.intro (R6.cell 2 0 rfl rfl) (And.intro (R6.cell 2 1 rfl rfl) (And.intro (R6.cell 2 2 rfl rfl) (And.intro (R6.cell 2 3 rfl rfl) (And.intro (R6.cell 1 0 rfl rfl) (And.intro (R6.cell 1 1 rfl rfl) (And.intro (R6.cell 1 2 rfl rfl) (R6.cell 1 3 rfl rfl)))))))
  go_wp2_with fail
  refine hK.out _ _ (fun _ => s6) ?_
  clear hK K
  try simp only [Act.put, List.setIfInBounds_toArray, List.set_cons_zero, List.set_cons_succ]
  have fcr0 := R6.cell 0 0 rfl rfl
  have ffr0 := R6.frozen 0 0 rfl
  have fcr1 := R6.cell 0 1 rfl rfl
  have ffr1 := R6.frozen 0 1 rfl
  have fcr2 := R6.cell 0 2 rfl rfl
  have ffr2 := R6.frozen 0 2 rfl
  have fcr3 := R6.cell 0 3 rfl rfl
  have ffr3 := R6.frozen 0 3 rfl
  refine wpAnyL_one (i := 17) (by kernel_rfl) rfl (fun K hK => ?_)
  go_simp
  refine hK.out _ _ (fun h => absurd (by simp) h) ?_
  clear hK K
  try simp only [Act.put, List.setIfInBounds_toArray, List.set_cons_zero, List.set_cons_succ]
  refine wpAnyL_done (by kernel_rfl) ?_ _
  clear fcr0 ffr0 fcr1 ffr1 fcr2 ffr2 fcr3 ffr3
  have R7 := (R6.st4 0 (.bool b_p) (.slice A_p n_p n_p) (.bool b_q) (.slice A_q n_q n_q) rfl rfl rfl rfl rfl)
  generalize ((((w6.setCell ⟨w.heap.size + 1 + 1, 0, none⟩ (.bool b_p)).setCell ⟨w.heap.size + 1 + 1, 1, none⟩ (.slice A_p n_p n_p)).setCell ⟨w.heap.size + 1 + 1, 2, none⟩ (.bool b_q)).setCell ⟨w.heap.size + 1 + 1, 3, none⟩ (.slice A_q n_q n_q)) = w7 at *
  go_wp2_with fail
  refine bodyPost_ret (results_cell_row rfl _ _ (w.heap.size + 1 + 1) 26 #[.bool b_p, .slice A_p n_p n_p, .bool b_q, .slice A_q n_q n_q] (0, 0) _ rfl (R7.b 0 rfl).is Tryz.underlying26 rfl (by kernel_rfl)) rfl ?_
  exact ⟨_, _, _, _, _, _, rfl, (R7.z 1 rfl).mono (by omega), (R7.z 0 rfl).mono (by omega), R7.bel⟩
set_option maxRecDepth 100000 in
set_option maxHeartbeats 3200000 in
theorem qsub1 {w : World} {a b a' b' : Bool} {A B A' B' : Option Addr} {n c m d n' c' m' d' : Nat} {i j i' j' : Nat} {r s : Rat} (ha : ZIs w a A n c r.num i true) (hb : ZIs w b B m d (r.den : Int) j true) (ha' : ZIs w a' A' n' c' s.num i' true) (hb' : ZIs w b' B' m' d' (s.den : Int) j' true) {k : Nat} (hi : i ≤ k) (hj : j ≤ k) (hi' : i' ≤ k) (hj' : j' ≤ k) (hk : k ≤ 65536) : Calls Tryz.prog 67 #[.agg #[.bool a, .slice A n c, .bool b, .slice B m d], .agg #[.bool a', .slice A' n' c', .bool b', .slice B' m' d']] w fun e w' => ∃ b3 A3 n3 b4 A4 n4, e = .returned (.agg #[.bool b3, .slice A3 n3 n3, .bool b4, .slice A4 n4 n4]) ∧ ZIs w' b3 A3 n3 n3 ((r - s).num) (2 * k + 1) true ∧ ZIs w' b4 A4 n4 n4 (((r - s).den : Nat) : Int) (2 * k + 1) true ∧ Below w.heap.size w w' := by
  have R0 := (((((((Env.nil_ w).add ha).add hb).add ha').add hb').alloc 26 #[.bool a, .slice A n c, .bool b, .slice B m d] (g := w.heap.size) rfl rfl).alloc 26 #[.bool a', .slice A' n' c', .bool b', .slice B' m' d'] (g := w.heap.size + 1) (by simp) rfl).alloc 26 #[.bool false, .slice none 0 0, .bool false, .slice none 0 0] (g := w.heap.size + 1 + 1) (by simp) rfl
  go_enter Tryz.func67, Tryz.ntmps67
  go_wp2_with fail
  have D1 := R0.drew
  have s1 := And.intro (D1.cell 2 0 rfl rfl) (And.intro (D1.cell 2 1 rfl rfl) (And.intro (D1.cell 2 2 rfl rfl) (And.intro (D1.cell 2 3 rfl rfl) (And.intro (D1.cell 1 0 rfl rfl) (And.intro (D1.cell 1 1 rfl rfl) (And.intro (D1.cell 1 2 rfl rfl) (D1.cell 1 3 rfl rfl)))))))
  refine wp_region_late [17] (fun w' => w'.cell? ⟨w.heap.size, 0, none⟩ = some (.bool a) ∧ w'.cell? ⟨w.heap.size, 1, none⟩ = some (.slice A n c) ∧ w'.cell? ⟨w.heap.size, 2, none⟩ = some (.bool b) ∧ w'.cell? ⟨w.heap.size, 3, none⟩ = some (.slice B m d) ∧ w'.cell? ⟨w.heap.size + 1, 0, none⟩ = some (.bool a') ∧ w'.cell? ⟨w.heap.size + 1, 1, none⟩ = some (.slice A' n' c') ∧ w'.cell? ⟨w.heap.size + 1, 2, none⟩ = some (.bool b') ∧ w'.cell? ⟨w.heap.size + 1, 3, none⟩ = some (.slice B' m' d')) (by kernel_rfl) ?_
  refine wpAnyL_take (i := 0) (v := ?_) rfl (by kernel_rfl) (by kernel_rfl) (by kernel_rfl) (by kernel_rfl) (by kernel_rfl) (fun _ _ _ h => h) (Or.inl ⟨by kernel_rfl, ?_⟩) s1 ?_
  rotate_left
  · rintro w' ⟨h1, h2, h3, h4, h5, h6, h7, h8⟩; go_simp; (try with_reducible rfl)
  try simp only [Act.put, List.setIfInBounds_toArray, List.set_cons_zero, List.set_cons_succ]
  refine wpAnyL_take (i := 1) (v := .agg #[.bool a, .slice A n c]) rfl (by kernel_rfl) (by kernel_rfl) (by kernel_rfl) (by kernel_rfl) (by kernel_rfl) (fun _ _ _ h => h) (Or.inl ⟨by rfl, by rintro w' ⟨h1, h2, h3, h4, h5, h6, h7, h8⟩; go_simp⟩) s1 ?_
  try simp only [Act.put, List.setIfInBounds_toArray, List.set_cons_zero, List.set_cons_succ]
  refine wpAnyL_take (i := 2) (v := ?_) rfl (by kernel_rfl) (by kernel_rfl) (by kernel_rfl) (by kernel_rfl) (by kernel_rfl) (fun _ _ _ h => h) (Or.inl ⟨by kernel_rfl, ?_⟩) s1 ?_
  rotate_left
  · rintro w' ⟨h1, h2, h3, h4, h5, h6, h7, h8⟩; go_simp; (try with_reducible rfl)
  try simp only [Act.put, List.setIfInBounds_toArray, List.set_cons_zero, List.set_cons_succ]
  refine wpAnyL_take (i := 3) (v := .agg #[.bool b', .slice B' m' d']) rfl (by kernel_rfl) (by kernel_rfl) (by kernel_rfl) (by kernel_rfl) (by kernel_rfl) (fun _ _ _ h => h) (Or.inl ⟨by rfl, by rintro w' ⟨h1, h2, h3, h4, h5, h6, h7, h8⟩; go_simp⟩) s1 ?_
  try simp only [Act.put, List.setIfInBounds_toArray, List.set_cons_zero, List.set_cons_succ]
  refine wpAnyL_take (i := 5) (v := ?_) rfl (by kernel_rfl) (by kernel_rfl) (by kernel_rfl) (by kernel_rfl) (by kernel_rfl) (fun _ _ _ h => h) (Or.inl ⟨by kernel_rfl, ?_⟩) s1 ?_
  rotate_left
  · rintro w' ⟨h1, h2, h3, h4, h5, h6, h7, h8⟩; go_simp; (try with_reducible rfl)
  try simp only [Act.put, List.setIfInBounds_toArray, List.set_cons_zero, List.set_cons_succ]
  refine wpAnyL_take (i := 6) (v := .agg #[.bool a', .slice A' n' c']) rfl (by kernel_rfl) (by kernel_rfl) (by kernel_rfl) (by kernel_rfl) (by kernel_rfl) (fun _ _ _ h => h) (Or.inl ⟨by rfl, by rintro w' ⟨h1, h2, h3, h4, h5, h6, h7, h8⟩; go_simp⟩) s1 ?_
  try simp only [Act.put, List.setIfInBounds_toArray, List.set_cons_zero, List.set_cons_succ]
  refine wpAnyL_take (i := 7) (v := ?_) rfl (by kernel_rfl) (by kernel_rfl) (by kernel_rfl) (by kernel_rfl) (by kernel_rfl) (fun _ _ _ h => h) (Or.inl ⟨by kernel_rfl, ?_⟩) s1 ?_
  rotate_left
  · rintro w' ⟨h1, h2, h3, h4, h5, h6, h7, h8⟩; go_simp; (try with_reducible rfl)
  try simp only [Act.put, List.setIfInBounds_toArray, List.set_cons_zero, List.set_cons_succ]
  refine wpAnyL_take (i := 8) (v := .agg #[.bool b, .slice B m d]) rfl (by kernel_rfl) (by kernel_rfl) (by kernel_rfl) (by kernel_rfl) (by kernel_rfl) (fun _ _ _ h => h) (Or.inl ⟨by rfl, by rintro w' ⟨h1, h2, h3, h4, h5, h6, h7, h8⟩; go_simp⟩) s1 ?_
  try simp only [Act.put, List.setIfInBounds_toArray, List.set_cons_zero, List.set_cons_succ]
  refine wpAnyL_take (i := 11) (v := ?_) rfl (by kernel_rfl) (by kernel_rfl) (by kernel_rfl) (by kernel_rfl) (by kernel_rfl) (fun _ _ _ h => h) (Or.inl ⟨by kernel_rfl, ?_⟩) s1 ?_
  rotate_left
  · rintro w' ⟨h1, h2, h3, h4, h5, h6, h7, h8⟩; go_simp; (try with_reducible rfl)
  try simp only [Act.put, List.setIfInBounds_toArray, List.set_cons_zero, List.set_cons_succ]
  refine wpAnyL_take (i := 12) (v := .agg #[.bool b, .slice B m d]) rfl (by kernel_rfl) (by kernel_rfl) (by kernel_rfl) (by kernel_rfl) (by kernel_rfl) (fun _ _ _ h => h) (Or.inl ⟨by rfl, by rintro w' ⟨h1, h2, h3, h4, h5, h6, h7, h8⟩; go_simp⟩) s1 ?_
  try simp only [Act.put, List.setIfInBounds_toArray, List.set_cons_zero, List.set_cons_succ]
  refine wpAnyL_take (i := 13) (v := ?_) rfl (by kernel_rfl) (by kernel_rfl) (by kernel_rfl) (by kernel_rfl) (by kernel_rfl) (fun _ _ _ h => h) (Or.inl ⟨by kernel_rfl, ?_⟩) s1 ?_
  rotate_left
  · rintro w' ⟨h1, h2, h3, h4, h5, h6, h7, h8⟩; go_simp; (try with_reducible rfl)
  try simp only [Act.put, List.setIfInBounds_toArray, List.set_cons_zero, List.set_cons_succ]
  refine wpAnyL_take (i := 14) (v := .agg #[.bool b', .slice B' m' d']) rfl (by kernel_rfl) (by kernel_rfl) (by kernel_rfl) (by kernel_rfl) (by kernel_rfl) (fun _ _ _ h => h) (Or.inl ⟨by rfl, by rintro w' ⟨h1, h2, h3, h4, h5, h6, h7, h8⟩; go_simp⟩) s1 ?_
  try simp only [Act.put, List.setIfInBounds_toArray, List.set_cons_zero, List.set_cons_succ]
  refine wpAnyL_one (i := 4) (by kernel_rfl) rfl (fun K hK => ?_)
  go_simp
  refine (zmul (K := 2 * k) (D1.z 3 rfl) (D1.z 0 rfl) (by omega) (by omega) (by omega)).mono ?_; rintro e w2 ⟨b_x1, A_x1, n_x1, rfl, z_x1, hb2⟩
  have R2 := ((D1.below hb2).add z_x1)
  have s2 := And.intro (R2.cell 2 0 rfl rfl) (And.intro (R2.cell 2 1 rfl rfl) (And.intro (R2.cell 2 2 rfl rfl) (And.intro (R2.cell 2 3 rfl rfl) (And.intro (R2.cell 1 0 rfl rfl) (And.intro (R2.cell 1 1 rfl rfl) (And.intro (R2.cell 1 2 rfl rfl) (R2.cell 1 3 rfl rfl)))))))
  go_wp2_with fail
  refine hK.out _ _ (fun _ => s2) ?_
  clear hK K
  try simp only [Act.put, List.setIfInBounds_toArray, List.set_cons_zero, List.set_cons_succ]
  refine wpAnyL_one (i := 9) (by kernel_rfl) rfl (fun K hK => ?_)
  go_simp
  refine (zmul (K := 2 * k) (R2.z 2 rfl) (R2.z 3 rfl) (by omega) (by omega) (by omega)).mono ?_; rintro e w3 ⟨b_x2, A_x2, n_x2, rfl, z_x2, hb3⟩
  have R3 := ((R2.below hb3).add z_x2)
  have s3 := And.intro (R3.cell 2 0 rfl rfl) (And.intro (R3.cell 2 1 rfl rfl) (And.intro (R3.cell 2 2 rfl rfl) (And.intro (R3.cell 2 3 rfl rfl) (And.intro (R3.cell 1 0 rfl rfl) (And.intro (R3.cell 1 1 rfl rfl) (And.intro (R3.cell 1 2 rfl rfl) (R3.cell 1 3 rfl rfl)))))))
  go_wp2_with fail
  refine hK.out _ _ (fun _ => s3) ?_
  clear hK K
  try simp only [Act.put, List.setIfInBounds_toArray, List.set_cons_zero, List.set_cons_succ]
  refine wpAnyL_one (i := 10) (by kernel_rfl) rfl (fun K hK => ?_)
  go_simp
  refine (zsub (K := 2 * k + 1) (R3.z 1 rfl) (R3.z 0 rfl) (by omega) (by omega) (by omega)).mono ?_; rintro e w4 ⟨b_x3, A_x3, n_x3, rfl, z_x3, hb4⟩
  have R4 := ((R3.below hb4).add z_x3)
  have s4 := And.intro (R4.cell 2 0 rfl rfl) (And.intro (R4.cell 2 1 rfl rfl) (And.intro (R4.cell 2 2 rfl rfl) (And.intro (R4.cell 2 3 rfl rfl) (And.intro (R4.cell 1 0 rfl rfl) (And.intro (R4.cell 1 1 rfl rfl) (And.intro (R4.cell 1 2 rfl rfl) (R4.cell 1 3 rfl rfl)))))))
  go_wp2_with fail
  refine hK.out _ _ (fun _ => s4) ?_
  clear hK K
  try simp only [Act.put, List.setIfInBounds_toArray, List.set_cons_zero, List.set_cons_succ]
  refine wpAnyL_one (i := 15) (by kernel_rfl) rfl (fun K hK => ?_)
  go_simp
  refine (zmul (K := 2 * k) (R4.z 5 rfl) (R4.z 3 rfl) (by omega) (by omega) (by omega)).mono ?_; rintro e w5 ⟨b_x4, A_x4, n_x4, rfl, z_x4, hb5⟩
  have R5 := ((R4.below hb5).add z_x4)
  have s5 := And.intro (R5.cell 2 0 rfl rfl) (And.intro (R5.cell 2 1 rfl rfl) (And.intro (R5.cell 2 2 rfl rfl) (And.intro (R5.cell 2 3 rfl rfl) (And.intro (R5.cell 1 0 rfl rfl) (And.intro (R5.cell 1 1 rfl rfl) (And.intro (R5.cell 1 2 rfl rfl) (R5.cell 1 3 rfl rfl)))))))
  go_wp2_with fail
  refine hK.out _ _ (fun _ => s5) ?_
  clear hK K
  try simp only [Act.put, List.setIfInBounds_toArray, List.set_cons_zero, List.set_cons_succ]
  refine wpAnyL_one (i := 16) (by kernel_rfl) rfl (fun K hK => ?_)
  go_simp
  refine (qby (R5.z 1 rfl) (R5.z 0 rfl) (by omega) (by omega) (Int.ne_of_gt (qdd_pos r s)) (qsub_of r s)).mono ?_; rintro e w6 ⟨b_p, A_p, n_p, b_q, A_q, n_q, rfl, z_p, z_q, hb6⟩
  have R6 := (((R5.below hb6).add z_p).add z_q)
  have s6 := And.intro (R6.cell 2 0 rfl rfl) (And.intro (R6.cell 2 1 rfl rfl) (And.intro (R6.cell 2 2 rfl rfl) (And.intro (R6.cell 2 3 rfl rfl) (And.intro (R6.cell 1 0 rfl rfl) (And.intro (R6.cell 1 1 rfl rfl) (And.intro (R6.cell 1 2 rfl rfl) (R6.cell 1 3 rfl rfl)))))))
  go_wp2_with fail
  refine hK.out _ _ (fun _ => s6) ?_
  clear hK K
  try simp only [Act.put, List.setIfInBounds_toArray, List.set_cons_zero, List.set_cons_succ]
  have fcr0 := R6.cell 0 0 rfl rfl
  have ffr0 := R6.frozen 0 0 rfl
  have fcr1 := R6.cell 0 1 rfl rfl
  have ffr1 := R6.frozen 0 1 rfl
  have fcr2 := R6.cell 0 2 rfl rfl
  have ffr2 := R6.frozen 0 2 rfl
  have fcr3 := R6.cell 0 3 rfl rfl
  have ffr3 := R6.frozen 0 3 rfl
  refine wpAnyL_one (i := 17) (by kernel_rfl) rfl (fun K hK => ?_)
  go_simp
  refine hK.out _ _ (fun h => absurd (by simp) h) ?_
  clear hK K
  try simp only [Act.put, List.setIfInBounds_toArray, List.set_cons_zero, List.set_cons_succ]
  refine wpAnyL_done (by kernel_rfl) ?_ _
  clear fcr0 ffr0 fcr1 ffr1 fcr2 ffr2 fcr3 ffr3
  have R7 := (R6.st4 0 (.bool b_p) (.slice A_p n_p n_p) (.bool b_q) (.slice A_q n_q n_q) rfl rfl rfl rfl rfl)
  generalize ((((w6.setCell ⟨w.heap.size + 1 + 1, 0, none⟩ (.bool b_p)).setCell ⟨w.heap.size + 1 + 1, 1, none⟩ (.slice A_p n_p n_p)).setCell ⟨w.heap.size + 1 + 1, 2, none⟩ (.bool b_q)).setCell ⟨w.heap.size + 1 + 1, 3, none⟩ (.slice A_q n_q n_q)) = w7 at *
  go_wp2_with fail
  refine bodyPost_ret (results_cell_row rfl _ _ (w.heap.size + 1 + 1) 26 #[.bool b_p, .slice A_p n_p n_p, .bool b_q, .slice A_q n_q n_q] (0, 0) _ rfl (R7.b 0 rfl).is Tryz.underlying26 rfl (by kernel_rfl)) rfl ?_
  exact ⟨_, _, _, _, _, _, rfl, (R7.z 1 rfl).mono (by omega), (R7.z 0 rfl).mono (by omega), R7.bel⟩
set_option maxRecDepth 100000 in
set_option maxHeartbeats 3200000 in
theorem qmul1 {w : World} {a b a' b' : Bool} {A B A' B' : Option Addr} {n c m d n' c' m' d' : Nat} {i j i' j' : Nat} {r s : Rat} (ha : ZIs w a A n c r.num i true) (hb : ZIs w b B m d (r.den : Int) j true) (ha' : ZIs w a' A' n' c' s.num i' true) (hb' : ZIs w b' B' m' d' (s.den : Int) j' true) {k : Nat} (hi : i ≤ k) (hj : j ≤ k) (hi' : i' ≤ k) (hj' : j' ≤ k) (hk : k ≤ 65536) : Calls Tryz.prog 78 #[.agg #[.bool a, .slice A n c, .bool b, .slice B m d], .agg #[.bool a', .slice A' n' c', .bool b', .slice B' m' d']] w fun e w' => ∃ b3 A3 n3 b4 A4 n4, e = .returned (.agg #[.bool b3, .slice A3 n3 n3, .bool b4, .slice A4 n4 n4]) ∧ ZIs w' b3 A3 n3 n3 ((r * s).num) (2 * k) true ∧ ZIs w' b4 A4 n4 n4 (((r * s).den : Nat) : Int) (2 * k) true ∧ Below w.heap.size w w' := by
  have R0 := (((((((Env.nil_ w).add ha).add hb).add ha').add hb').alloc 26 #[.bool a, .slice A n c, .bool b, .slice B m d] (g := w.heap.size) rfl rfl).alloc 26 #[.bool a', .slice A' n' c', .bool b', .slice B' m' d'] (g := w.heap.size + 1) (by simp) rfl).alloc 26 #[.bool false, .slice none 0 0, .bool false, .slice none 0 0] (g := w.heap.size + 1 + 1) (by simp) rfl
  go_enter Tryz.func78, Tryz.ntmps78
  go_wp2_with fail
  have D1 := R0.drew
  have s1 := And.intro (D1.cell 2 0 rfl rfl) (And.intro (D1.cell 2 1 rfl rfl) (And.intro (D1.cell 2 2 rfl rfl) (And.intro (D1.cell 2 3 rfl rfl) (And.intro (D1.cell 1 0 rfl rfl) (And.intro (D1.cell 1 1 rfl rfl) (And.intro (D1.cell 1 2 rfl rfl) (D1.cell 1 3 rfl rfl)))))))
  refine wp_region_late [11] (fun w' => w'.cell? ⟨w.heap.size, 0, none⟩ = some (.bool a) ∧ w'.cell? ⟨w.heap.size, 1, none⟩ = some (.slice A n c) ∧ w'.cell? ⟨w.heap.size, 2, none⟩ = some (.bool b) ∧ w'.cell? ⟨w.heap.size, 3, none⟩ = some (.slice B m d) ∧ w'.cell? ⟨w.heap.size + 1, 0, none⟩ = some (.bool a') ∧ w'.cell? ⟨w.heap.size + 1, 1, none⟩ = some (.slice A' n' c') ∧ w'.cell? ⟨w.heap.size + 1, 2, none⟩ = some (.bool b') ∧ w'.cell? ⟨w.heap.size + 1, 3, none⟩ = some (.slice B' m' d')) (by kernel_rfl) ?_
  refine wpAnyL_take (i := 0) (v := ?_) rfl (by kernel_rfl) (by kernel_rfl) (by kernel_rfl) (by kernel_rfl) (by kernel_rfl) (fun _ _ _ h => h) (Or.inl ⟨by kernel_rfl, ?_⟩) s1 ?_
  rotate_left
  · rintro w' ⟨h1, h2, h3, h4, h5, h6, h7, h8⟩; go_simp; (try with_reducible rfl)
  try simp only [Act.put, List.setIfInBounds_toArray, List.set_cons_zero, List.set_cons_succ]
  refine wpAnyL_take (i := 1) (v := .agg #[.bool a, .slice A n c]) rfl (by kernel_rfl) (by kernel_rfl) (by kernel_rfl) (by kernel_rfl) (by kernel_rfl) (fun _ _ _ h => h) (Or.inl ⟨by rfl, by rintro w' ⟨h1, h2, h3, h4, h5, h6, h7, h8⟩; go_simp⟩) s1 ?_
  try simp only [Act.put, List.setIfInBounds_toArray, List.set_cons_zero, List.set_cons_succ]
  refine wpAnyL_take (i := 2) (v := ?_) rfl (by kernel_rfl) (by kernel_rfl) (by kernel_rfl) (by kernel_rfl) (by kernel_rfl) (fun _ _ _ h => h) (Or.inl ⟨by kernel_rfl, ?_⟩) s1 ?_
  rotate_left
  · rintro w' ⟨h1, h2, h3, h4, h5, h6, h7, h8⟩; go_simp; (try with_reducible rfl)
  try simp only [Act.put, List.setIfInBounds_toArray, List.set_cons_zero, List.set_cons_succ]
  refine wpAnyL_take (i := 3) (v := .agg #[.bool a', .slice A' n' c']) rfl (by kernel_rfl) (by kernel_rfl) (by kernel_rfl) (by kernel_rfl) (by kernel_rfl) (fun _ _ _ h => h) (Or.inl ⟨by rfl, by rintro w' ⟨h1, h2, h3, h4, h5, h6, h7, h8⟩; go_simp⟩) s1 ?_
  try simp only [Act.put, List.setIfInBounds_toArray, List.set_cons_zero, List.set_cons_succ]
  refine wpAnyL_take (i := 5) (v := ?_) rfl (by kernel_rfl) (by kernel_rfl) (by kernel_rfl) (by kernel_rfl) (by kernel_rfl) (fun _ _ _ h => h) (Or.inl ⟨by kernel_rfl, ?_⟩) s1 ?_
  rotate_left
  · rintro w' ⟨h1, h2, h3, h4, h5, h6, h7, h8⟩; go_simp; (try with_reducible rfl)
  try simp only [Act.put, List.setIfInBounds_toArray, List.set_cons_zero, List.set_cons_succ]
  refine wpAnyL_take (i := 6) (v := .agg #[.bool b, .slice B m d]) rfl (by kernel_rfl) (by kernel_rfl) (by kernel_rfl) (by kernel_rfl) (by kernel_rfl) (fun _ _ _ h => h) (Or.inl ⟨by rfl, by rintro w' ⟨h1, h2, h3, h4, h5, h6, h7, h8⟩; go_simp⟩) s1 ?_
  try simp only [Act.put, List.setIfInBounds_toArray, List.set_cons_zero, List.set_cons_succ]
  refine wpAnyL_take (i := 7) (v := ?_) rfl (by kernel_rfl) (by kernel_rfl) (by kernel_rfl) (by kernel_rfl) (by kernel_rfl) (fun _ _ _ h => h) (Or.inl ⟨by kernel_rfl, ?_⟩) s1 ?_
  rotate_left
  · rintro w' ⟨h1, h2, h3, h4, h5, h6, h7, h8⟩; go_simp; (try with_reducible rfl)
  try simp only [Act.put, List.setIfInBounds_toArray, List.set_cons_zero, List.set_cons_succ]
  refine wpAnyL_take (i := 8) (v := .agg #[.bool b', .slice B' m' d']) rfl (by kernel_rfl) (by kernel_rfl) (by kernel_rfl) (by kernel_rfl) (by kernel_rfl) (fun _ _ _ h => h) (Or.inl ⟨by rfl, by rintro w' ⟨h1, h2, h3, h4, h5, h6, h7, h8⟩; go_simp⟩) s1 ?_
  try simp only [Act.put, List.setIfInBounds_toArray, List.set_cons_zero, List.set_cons_succ]
  refine wpAnyL_one (i := 4) (by kernel_rfl) rfl (fun K hK => ?_)
  go_simp
  refine (zmul (K := 2 * k) (D1.z 3 rfl) (D1.z 1 rfl) (by omega) (by omega) (by omega)).mono ?_; rintro e w2 ⟨b_x1, A_x1, n_x1, rfl, z_x1, hb2⟩
  have R2 := ((D1.below hb2).add z_x1)
  have s2 := And.intro (R2.cell 2 0 rfl rfl) (And.intro (R2.cell 2 1 rfl rfl) (And.intro (R2.cell 2 2 rfl rfl) (And.intro (R2.cell 2 3 rfl rfl) (And.intro (R2.cell 1 0 rfl rfl) (And.intro (R2.cell 1 1 rfl rfl) (And.intro (R2.cell 1 2 rfl rfl) (R2.cell 1 3 rfl rfl)))))))
  go_wp2_with fail
  refine hK.out _ _ (fun _ => s2) ?_
  clear hK K
  try simp only [Act.put, List.setIfInBounds_toArray, List.set_cons_zero, List.set_cons_succ]
  refine wpAnyL_one (i := 9) (by kernel_rfl) rfl (fun K hK => ?_)
  go_simp
  refine (zmul (K := 2 * k) (R2.z 3 rfl) (R2.z 1 rfl) (by omega) (by omega) (by omega)).mono ?_; rintro e w3 ⟨b_x4, A_x4, n_x4, rfl, z_x4, hb3⟩
  have R3 := ((R2.below hb3).add z_x4)
  have s3 := And.intro (R3.cell 2 0 rfl rfl) (And.intro (R3.cell 2 1 rfl rfl) (And.intro (R3.cell 2 2 rfl rfl) (And.intro (R3.cell 2 3 rfl rfl) (And.intro (R3.cell 1 0 rfl rfl) (And.intro (R3.cell 1 1 rfl rfl) (And.intro (R3.cell 1 2 rfl rfl) (R3.cell 1 3 rfl rfl)))))))
  go_wp2_with fail
  refine hK.out _ _ (fun _ => s3) ?_
  clear hK K
  try simp only [Act.put, List.setIfInBounds_toArray, List.set_cons_zero, List.set_cons_succ]
  refine wpAnyL_one (i := 10) (by kernel_rfl) rfl (fun K hK => ?_)
  go_simp
  refine (qby (R3.z 1 rfl) (R3.z 0 rfl) (by omega) (by omega) (Int.ne_of_gt (qdd_pos r s)) (qmul_of r s)).mono ?_; rintro e w4 ⟨b_p, A_p, n_p, b_q, A_q, n_q, rfl, z_p, z_q, hb4⟩
  have R4 := (((R3.below hb4).add z_p).add z_q)
  have s4 := And.intro (R4.cell 2 0 rfl rfl) (And.intro (R4.cell 2 1 rfl rfl) (And.intro (R4.cell 2 2 rfl rfl) (And.intro (R4.cell 2 3 rfl rfl) (And.intro (R4.cell 1 0 rfl rfl) (And.intro (R4.cell 1 1 rfl rfl) (And.intro (R4.cell 1 2 rfl rfl) (R4.cell 1 3 rfl rfl)))))))
  go_wp2_with fail
  refine hK.out _ _ (fun _ => s4) ?_
  clear hK K
  try simp only [Act.put, List.setIfInBounds_toArray, List.set_cons_zero, List.set_cons_succ]
  have fcr0 := R4.cell 0 0 rfl rfl
  have ffr0 := R4.frozen 0 0 rfl
  have fcr1 := R4.cell 0 1 rfl rfl
  have ffr1 := R4.frozen 0 1 rfl
  have fcr2 := R4.cell 0 2 rfl rfl
  have ffr2 := R4.frozen 0 2 rfl
  have fcr3 := R4.cell 0 3 rfl rfl
  have ffr3 := R4.frozen 0 3 rfl
  refine wpAnyL_one (i := 11) (by kernel_rfl) rfl (fun K hK => ?_)
  go_simp
  refine hK.out _ _ (fun h => absurd (by simp) h) ?_
  clear hK K
  try simp only [Act.put, List.setIfInBounds_toArray, List.set_cons_zero, List.set_cons_succ]
  refine wpAnyL_done (by kernel_rfl) ?_ _
  clear fcr0 ffr0 fcr1 ffr1 fcr2 ffr2 fcr3 ffr3
  have R5 := (R4.st4 0 (.bool b_p) (.slice A_p n_p n_p) (.bool b_q) (.slice A_q n_q n_q) rfl rfl rfl rfl rfl)
  generalize ((((w4.setCell ⟨w.heap.size + 1 + 1, 0, none⟩ (.bool b_p)).setCell ⟨w.heap.size + 1 + 1, 1, none⟩ (.slice A_p n_p n_p)).setCell ⟨w.heap.size + 1 + 1, 2, none⟩ (.bool b_q)).setCell ⟨w.heap.size + 1 + 1, 3, none⟩ (.slice A_q n_q n_q)) = w5 at *
  go_wp2_with fail
  refine bodyPost_ret (results_cell_row rfl _ _ (w.heap.size + 1 + 1) 26 #[.bool b_p, .slice A_p n_p n_p, .bool b_q, .slice A_q n_q n_q] (0, 0) _ rfl (R5.b 0 rfl).is Tryz.underlying26 rfl (by kernel_rfl)) rfl ?_
  exact ⟨_, _, _, _, _, _, rfl, (R5.z 1 rfl).mono (by omega), (R5.z 0 rfl).mono (by omega), R5.bel⟩
end Go.Proofs.YticjhlbmdjijnaaGreatDoor
