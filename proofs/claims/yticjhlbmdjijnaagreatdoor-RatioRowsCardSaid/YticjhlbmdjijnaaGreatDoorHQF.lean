/- The contracts of package ratio: Cmp, Div. No condition but the reach of a slice. -/
import Derived.Test.YticjhlbmdjijnaaGreatDoorHQC
namespace Go.Proofs.YticjhlbmdjijnaaGreatDoor
set_option linter.unusedSimpArgs false
set_option linter.unusedVariables false
open Go.RowKit

set_option maxRecDepth 100000 in
set_option maxHeartbeats 3200000 in
theorem qcmp_ {w : World} {a b a' b' : Bool} {A B A' B' : Option Addr} {n c m d n' c' m' d' : Nat} {x y x' y' : Int} {i j i' j' : Nat} {p q p' q' : Bool} (ha : ZIs w a A n c x i p) (hb : ZIs w b B m d y j q) (ha' : ZIs w a' A' n' c' x' i' p') (hb' : ZIs w b' B' m' d' y' j' q') {k : Nat} (hi : i ≤ k) (hj : j ≤ k) (hi' : i' ≤ k) (hj' : j' ≤ k) (hk : k ≤ 65536) (h1 : 1 ≤ k) {r s : Rat} (hr : qv x y = r) (hs : qv x' y' = s) {z : Int} (hz : qcmp r s = z) : Calls Tryz.prog 24 #[.agg #[.bool a, .slice A n c, .bool b, .slice B m d], .agg #[.bool a', .slice A' n' c', .bool b', .slice B' m' d']] w fun e w' => e = .returned (.int .i64 z) ∧ Below w.heap.size w w' := by
  have R0 := ((((((Env.nil_ w).add ha).add hb).add ha').add hb').alloc 26 #[.bool a, .slice A n c, .bool b, .slice B m d] (g := w.heap.size) rfl rfl).alloc 26 #[.bool a', .slice A' n' c', .bool b', .slice B' m' d'] (g := w.heap.size + 1) (by simp) rfl
  have HR := Lib.hid hr
  have HS := Lib.hid hs
  clear hr hs
  have HZ := Lib.hid ((qcmp_cross r s).trans hz)
  clear hz
  go_enter Tryz.func24, Tryz.ntmps24
  go_wp2_with fail
  have D1 := R0.drew
  have s1 := And.intro (D1.cell 1 0 rfl rfl) (And.intro (D1.cell 1 1 rfl rfl) (And.intro (D1.cell 1 2 rfl rfl) (And.intro (D1.cell 1 3 rfl rfl) (And.intro (D1.cell 0 0 rfl rfl) (And.intro (D1.cell 0 1 rfl rfl) (And.intro (D1.cell 0 2 rfl rfl) (D1.cell 0 3 rfl rfl)))))))
  refine wp_region_late [4, 5] (fun w' => w'.cell? ⟨w.heap.size, 0, none⟩ = some (.bool a) ∧ w'.cell? ⟨w.heap.size, 1, none⟩ = some (.slice A n c) ∧ w'.cell? ⟨w.heap.size, 2, none⟩ = some (.bool b) ∧ w'.cell? ⟨w.heap.size, 3, none⟩ = some (.slice B m d) ∧ w'.cell? ⟨w.heap.size + 1, 0, none⟩ = some (.bool a') ∧ w'.cell? ⟨w.heap.size + 1, 1, none⟩ = some (.slice A' n' c') ∧ w'.cell? ⟨w.heap.size + 1, 2, none⟩ = some (.bool b') ∧ w'.cell? ⟨w.heap.size + 1, 3, none⟩ = some (.slice B' m' d')) (by kernel_rfl) ?_
  refine wpAnyL_take (i := 0) (v := .agg #[.bool a, .slice A n c, .bool b, .slice B m d]) rfl (by kernel_rfl) (by kernel_rfl) (by kernel_rfl) (by kernel_rfl) (by kernel_rfl) (fun _ _ _ h => h) (Or.inl ⟨by rfl, by rintro w' ⟨h1, h2, h3, h4, h5, h6, h7, h8⟩; go_simp⟩) s1 ?_
  try simp only [Act.put, List.setIfInBounds_toArray, List.set_cons_zero, List.set_cons_succ]
  refine wpAnyL_take (i := 2) (v := .agg #[.bool a', .slice A' n' c', .bool b', .slice B' m' d']) rfl (by kernel_rfl) (by kernel_rfl) (by kernel_rfl) (by kernel_rfl) (by kernel_rfl) (fun _ _ _ h => h) (Or.inl ⟨by rfl, by rintro w' ⟨h1, h2, h3, h4, h5, h6, h7, h8⟩; go_simp⟩) s1 ?_
  try simp only [Act.put, List.setIfInBounds_toArray, List.set_cons_zero, List.set_cons_succ]
  refine wpAnyL_one (i := 1) (by kernel_rfl) rfl (fun K hK => ?_)
  go_simp
  refine (qplain (K := k) (D1.z 3 rfl) (D1.z 2 rfl) (by omega) (by omega) (by omega) h1 HR.out).mono ?_; rintro e w2 ⟨b_x, A_x, n_x, b_x_, A_x_, n_x_, rfl, z_x, z_x_, hb2⟩
  have R2 := (((D1.below hb2).add z_x).add z_x_)
  have s2 := And.intro (R2.cell 1 0 rfl rfl) (And.intro (R2.cell 1 1 rfl rfl) (And.intro (R2.cell 1 2 rfl rfl) (And.intro (R2.cell 1 3 rfl rfl) (And.intro (R2.cell 0 0 rfl rfl) (And.intro (R2.cell 0 1 rfl rfl) (And.intro (R2.cell 0 2 rfl rfl) (R2.cell 0 3 rfl rfl)))))))
  go_wp2_with fail
  refine hK.out _ _ (fun _ => s2) ?_
  clear hK K
  try simp only [Act.put, List.setIfInBounds_toArray, List.set_cons_zero, List.set_cons_succ]
  refine wpAnyL_one (i := 3) (by kernel_rfl) rfl (fun K hK => ?_)
  go_simp
  refine (qplain (K := k) (R2.z 3 rfl) (R2.z 2 rfl) (by omega) (by omega) (by omega) h1 HS.out).mono ?_; rintro e w3 ⟨b_y, A_y, n_y, b_y_, A_y_, n_y_, rfl, z_y, z_y_, hb3⟩
  have R3 := (((R2.below hb3).add z_y).add z_y_)
  have s3 := And.intro (R3.cell 1 0 rfl rfl) (And.intro (R3.cell 1 1 rfl rfl) (And.intro (R3.cell 1 2 rfl rfl) (And.intro (R3.cell 1 3 rfl rfl) (And.intro (R3.cell 0 0 rfl rfl) (And.intro (R3.cell 0 1 rfl rfl) (And.intro (R3.cell 0 2 rfl rfl) (R3.cell 0 3 rfl rfl)))))))
  go_wp2_with fail
  refine hK.out _ _ (fun _ => s3) ?_
  clear hK K
  try simp only [Act.put, List.setIfInBounds_toArray, List.set_cons_zero, List.set_cons_succ]
  have fca0 := R3.cell 1 0 rfl rfl
  have ffa0 := R3.frozen 1 0 rfl
  have fca1 := R3.cell 1 1 rfl rfl
  have ffa1 := R3.frozen 1 1 rfl
  have fca2 := R3.cell 1 2 rfl rfl
  have ffa2 := R3.frozen 1 2 rfl
  have fca3 := R3.cell 1 3 rfl rfl
  have ffa3 := R3.frozen 1 3 rfl
  have fcb0 := R3.cell 0 0 rfl rfl
  have ffb0 := R3.frozen 0 0 rfl
  have fcb1 := R3.cell 0 1 rfl rfl
  have ffb1 := R3.frozen 0 1 rfl
  have fcb2 := R3.cell 0 2 rfl rfl
  have ffb2 := R3.frozen 0 2 rfl
  have fcb3 := R3.cell 0 3 rfl rfl
  have ffb3 := R3.frozen 0 3 rfl
  refine wpAnyL_one (i := 4) (by kernel_rfl) rfl (fun K hK => ?_)
  go_simp
  refine hK.out _ _ (fun h => absurd (by simp) h) ?_
  clear hK K
  try simp only [Act.put, List.setIfInBounds_toArray, List.set_cons_zero, List.set_cons_succ]
  refine wpAnyL_one (i := 5) (by kernel_rfl) rfl (fun K hK => ?_)
  go_simp
  refine hK.out _ _ (fun h => absurd (by simp) h) ?_
  clear hK K
  try simp only [Act.put, List.setIfInBounds_toArray, List.set_cons_zero, List.set_cons_succ]
  refine wpAnyL_done (by kernel_rfl) ?_ _
  clear fca0 ffa0 fca1 ffa1 fca2 ffa2 fca3 ffa3 fcb0 ffb0 fcb1 ffb1 fcb2 ffb2 fcb3 ffb3
  have R4 := ((R3.st4 1 (.bool b_x) (.slice A_x n_x n_x) (.bool b_x_) (.slice A_x_ n_x_ n_x_) rfl rfl rfl rfl rfl).st4 0 (.bool b_y) (.slice A_y n_y n_y) (.bool b_y_) (.slice A_y_ n_y_ n_y_) rfl rfl rfl rfl rfl)
  generalize ((((((((w3.setCell ⟨w.heap.size, 0, none⟩ (.bool b_x)).setCell ⟨w.heap.size, 1, none⟩ (.slice A_x n_x n_x)).setCell ⟨w.heap.size, 2, none⟩ (.bool b_x_)).setCell ⟨w.heap.size, 3, none⟩ (.slice A_x_ n_x_ n_x_)).setCell ⟨w.heap.size + 1, 0, none⟩ (.bool b_y)).setCell ⟨w.heap.size + 1, 1, none⟩ (.slice A_y n_y n_y)).setCell ⟨w.heap.size + 1, 2, none⟩ (.bool b_y_)).setCell ⟨w.heap.size + 1, 3, none⟩ (.slice A_y_ n_y_ n_y_)) = w4 at *
  go_wp2_with fail
  have D5 := R4.drew
  have s5 := And.intro (D5.cell 1 0 rfl rfl) (And.intro (D5.cell 1 1 rfl rfl) (And.intro (D5.cell 1 2 rfl rfl) (And.intro (D5.cell 1 3 rfl rfl) (And.intro (D5.cell 0 0 rfl rfl) (And.intro (D5.cell 0 1 rfl rfl) (And.intro (D5.cell 0 2 rfl rfl) (D5.cell 0 3 rfl rfl)))))))
  refine wp_region_late [] (fun w' => w'.cell? ⟨w.heap.size, 0, none⟩ = some (.bool b_x) ∧ w'.cell? ⟨w.heap.size, 1, none⟩ = some (.slice A_x n_x n_x) ∧ w'.cell? ⟨w.heap.size, 2, none⟩ = some (.bool b_x_) ∧ w'.cell? ⟨w.heap.size, 3, none⟩ = some (.slice A_x_ n_x_ n_x_) ∧ w'.cell? ⟨w.heap.size + 1, 0, none⟩ = some (.bool b_y) ∧ w'.cell? ⟨w.heap.size + 1, 1, none⟩ = some (.slice A_y n_y n_y) ∧ w'.cell? ⟨w.heap.size + 1, 2, none⟩ = some (.bool b_y_) ∧ w'.cell? ⟨w.heap.size + 1, 3, none⟩ = some (.slice A_y_ n_y_ n_y_)) (by kernel_rfl) ?_
  refine wpAnyL_take (i := 0) (v := ?_) rfl (by kernel_rfl) (by kernel_rfl) (by kernel_rfl) (by kernel_rfl) (by kernel_rfl) (fun _ _ _ h => h) (Or.inl ⟨by kernel_rfl, ?_⟩) s5 ?_
  rotate_left
  · rintro w' ⟨h1, h2, h3, h4, h5, h6, h7, h8⟩; go_simp; (try with_reducible rfl)
  try simp only [Act.put, List.setIfInBounds_toArray, List.set_cons_zero, List.set_cons_succ]
  refine wpAnyL_take (i := 1) (v := .agg #[.bool b_x, .slice A_x n_x n_x]) rfl (by kernel_rfl) (by kernel_rfl) (by kernel_rfl) (by kernel_rfl) (by kernel_rfl) (fun _ _ _ h => h) (Or.inl ⟨by rfl, by rintro w' ⟨h1, h2, h3, h4, h5, h6, h7, h8⟩; go_simp⟩) s5 ?_
  try simp only [Act.put, List.setIfInBounds_toArray, List.set_cons_zero, List.set_cons_succ]
  refine wpAnyL_take (i := 2) (v := ?_) rfl (by kernel_rfl) (by kernel_rfl) (by kernel_rfl) (by kernel_rfl) (by kernel_rfl) (fun _ _ _ h => h) (Or.inl ⟨by kernel_rfl, ?_⟩) s5 ?_
  rotate_left
  · rintro w' ⟨h1, h2, h3, h4, h5, h6, h7, h8⟩; go_simp; (try with_reducible rfl)
  try simp only [Act.put, List.setIfInBounds_toArray, List.set_cons_zero, List.set_cons_succ]
  refine wpAnyL_take (i := 3) (v := .agg #[.bool b_y_, .slice A_y_ n_y_ n_y_]) rfl (by kernel_rfl) (by kernel_rfl) (by kernel_rfl) (by kernel_rfl) (by kernel_rfl) (fun _ _ _ h => h) (Or.inl ⟨by rfl, by rintro w' ⟨h1, h2, h3, h4, h5, h6, h7, h8⟩; go_simp⟩) s5 ?_
  try simp only [Act.put, List.setIfInBounds_toArray, List.set_cons_zero, List.set_cons_succ]
  refine wpAnyL_take (i := 5) (v := ?_) rfl (by kernel_rfl) (by kernel_rfl) (by kernel_rfl) (by kernel_rfl) (by kernel_rfl) (fun _ _ _ h => h) (Or.inl ⟨by kernel_rfl, ?_⟩) s5 ?_
  rotate_left
  · rintro w' ⟨h1, h2, h3, h4, h5, h6, h7, h8⟩; go_simp; (try with_reducible rfl)
  try simp only [Act.put, List.setIfInBounds_toArray, List.set_cons_zero, List.set_cons_succ]
  refine wpAnyL_take (i := 6) (v := .agg #[.bool b_y, .slice A_y n_y n_y]) rfl (by kernel_rfl) (by kernel_rfl) (by kernel_rfl) (by kernel_rfl) (by kernel_rfl) (fun _ _ _ h => h) (Or.inl ⟨by rfl, by rintro w' ⟨h1, h2, h3, h4, h5, h6, h7, h8⟩; go_simp⟩) s5 ?_
  try simp only [Act.put, List.setIfInBounds_toArray, List.set_cons_zero, List.set_cons_succ]
  refine wpAnyL_take (i := 7) (v := ?_) rfl (by kernel_rfl) (by kernel_rfl) (by kernel_rfl) (by kernel_rfl) (by kernel_rfl) (fun _ _ _ h => h) (Or.inl ⟨by kernel_rfl, ?_⟩) s5 ?_
  rotate_left
  · rintro w' ⟨h1, h2, h3, h4, h5, h6, h7, h8⟩; go_simp; (try with_reducible rfl)
  try simp only [Act.put, List.setIfInBounds_toArray, List.set_cons_zero, List.set_cons_succ]
  refine wpAnyL_take (i := 8) (v := .agg #[.bool b_x_, .slice A_x_ n_x_ n_x_]) rfl (by kernel_rfl) (by kernel_rfl) (by kernel_rfl) (by kernel_rfl) (by kernel_rfl) (fun _ _ _ h => h) (Or.inl ⟨by rfl, by rintro w' ⟨h1, h2, h3, h4, h5, h6, h7, h8⟩; go_simp⟩) s5 ?_
  try simp only [Act.put, List.setIfInBounds_toArray, List.set_cons_zero, List.set_cons_succ]
  refine wpAnyL_one (i := 4) (by kernel_rfl) rfl (fun K hK => ?_)
  go_simp
  refine (zmul (K := 2 * k) (D5.z 3 rfl) (D5.z 0 rfl) (by omega) (by omega) (by omega)).mono ?_; rintro e w6 ⟨b_m1, A_m1, n_m1, rfl, z_m1, hb6⟩
  have R6 := ((D5.below hb6).add z_m1)
  have s6 := And.intro (R6.cell 1 0 rfl rfl) (And.intro (R6.cell 1 1 rfl rfl) (And.intro (R6.cell 1 2 rfl rfl) (And.intro (R6.cell 1 3 rfl rfl) (And.intro (R6.cell 0 0 rfl rfl) (And.intro (R6.cell 0 1 rfl rfl) (And.intro (R6.cell 0 2 rfl rfl) (R6.cell 0 3 rfl rfl)))))))
  go_wp2_with fail
  refine hK.out _ _ (fun _ => s6) ?_
  clear hK K
  try simp only [Act.put, List.setIfInBounds_toArray, List.set_cons_zero, List.set_cons_succ]
  refine wpAnyL_one (i := 9) (by kernel_rfl) rfl (fun K hK => ?_)
  go_simp
  refine (zmul (K := 2 * k) (R6.z 2 rfl) (R6.z 3 rfl) (by omega) (by omega) (by omega)).mono ?_; rintro e w7 ⟨b_m2, A_m2, n_m2, rfl, z_m2, hb7⟩
  have R7 := ((R6.below hb7).add z_m2)
  have s7 := And.intro (R7.cell 1 0 rfl rfl) (And.intro (R7.cell 1 1 rfl rfl) (And.intro (R7.cell 1 2 rfl rfl) (And.intro (R7.cell 1 3 rfl rfl) (And.intro (R7.cell 0 0 rfl rfl) (And.intro (R7.cell 0 1 rfl rfl) (And.intro (R7.cell 0 2 rfl rfl) (R7.cell 0 3 rfl rfl)))))))
  go_wp2_with fail
  refine hK.out _ _ (fun _ => s7) ?_
  clear hK K
  try simp only [Act.put, List.setIfInBounds_toArray, List.set_cons_zero, List.set_cons_succ]
  refine wpAnyL_one (i := 10) (by kernel_rfl) rfl (fun K hK => ?_)
  go_simp
  refine (zcmp_is (R7.z 1 rfl) (R7.z 0 rfl) (by omega) (by omega) z HZ.out).mono ?_; rintro e w8 ⟨rfl, hb8⟩
  have R8 := (R7.below hb8)
  have s8 := And.intro (R8.cell 1 0 rfl rfl) (And.intro (R8.cell 1 1 rfl rfl) (And.intro (R8.cell 1 2 rfl rfl) (And.intro (R8.cell 1 3 rfl rfl) (And.intro (R8.cell 0 0 rfl rfl) (And.intro (R8.cell 0 1 rfl rfl) (And.intro (R8.cell 0 2 rfl rfl) (R8.cell 0 3 rfl rfl)))))))
  go_wp2_with fail
  refine hK.out _ _ (fun _ => s8) ?_
  clear hK K
  try simp only [Act.put, List.setIfInBounds_toArray, List.set_cons_zero, List.set_cons_succ]
  refine wpAnyL_one (i := 11) (by kernel_rfl) rfl (fun K hK => ?_)
  go_simp
  refine hK.out _ _ (fun _ => s8) ?_
  clear hK K
  try simp only [Act.put, List.setIfInBounds_toArray, List.set_cons_zero, List.set_cons_succ]
  refine wpAnyL_done (by kernel_rfl) ?_ _
  go_wp2_with fail
  go_ret
  exact ⟨rfl, R8.bel⟩
set_option maxRecDepth 100000 in
set_option maxHeartbeats 3200000 in
theorem qdiv_zero {w : World} {a b a' b' : Bool} {A B A' B' : Option Addr} {n c m d n' c' m' d' : Nat} {x y x' y' : Int} {i j i' j' : Nat} {p q p' q' : Bool} (ha : ZIs w a A n c x i p) (hb : ZIs w b B m d y j q) (ha' : ZIs w a' A' n' c' x' i' p') (hb' : ZIs w b' B' m' d' y' j' q') {k : Nat} (hi : i ≤ k) (hj : j ≤ k) (hi' : i' ≤ k) (hj' : j' ≤ k) (hk : k ≤ 65536) (h1 : 1 ≤ k) {r s : Rat} (hr : qv x y = r) (hs : qv x' y' = s) (h0 : s = 0) : Calls Tryz.prog 30 #[.agg #[.bool a, .slice A n c, .bool b, .slice B m d], .agg #[.bool a', .slice A' n' c', .bool b', .slice B' m' d']] w fun e w' => ∃ b3 A3 n3 b4 A4 n4, e = .returned (.tuple #[.agg #[.bool b3, .slice A3 n3 n3, .bool b4, .slice A4 n4 n4], .bool false]) ∧ ZIs w' b3 A3 n3 n3 ((0 : Rat).num) k true ∧ ZIs w' b4 A4 n4 n4 (((0 : Rat).den : Nat) : Int) k true ∧ Below w.heap.size w w' := by
  have R0 := (((((((Env.nil_ w).add ha).add hb).add ha').add hb').alloc 26 #[.bool a, .slice A n c, .bool b, .slice B m d] (g := w.heap.size) rfl rfl).alloc 26 #[.bool a', .slice A' n' c', .bool b', .slice B' m' d'] (g := w.heap.size + 1) (by simp) rfl).alloc 26 #[.bool false, .slice none 0 0, .bool false, .slice none 0 0] (g := w.heap.size + 1 + 1) (by simp) rfl
  have HR := Lib.hid hr
  have HS := Lib.hid hs
  clear hr hs
  have H0 := Lib.hid h0
  clear h0
  go_enter Tryz.func30, Tryz.ntmps30
  go_wp2_with fail
  have D1 := R0.drew
  have s1 := And.intro (D1.cell 2 0 rfl rfl) (And.intro (D1.cell 2 1 rfl rfl) (And.intro (D1.cell 2 2 rfl rfl) (And.intro (D1.cell 2 3 rfl rfl) (And.intro (D1.cell 1 0 rfl rfl) (And.intro (D1.cell 1 1 rfl rfl) (And.intro (D1.cell 1 2 rfl rfl) (D1.cell 1 3 rfl rfl)))))))
  refine wp_region_late [4, 5] (fun w' => w'.cell? ⟨w.heap.size, 0, none⟩ = some (.bool a) ∧ w'.cell? ⟨w.heap.size, 1, none⟩ = some (.slice A n c) ∧ w'.cell? ⟨w.heap.size, 2, none⟩ = some (.bool b) ∧ w'.cell? ⟨w.heap.size, 3, none⟩ = some (.slice B m d) ∧ w'.cell? ⟨w.heap.size + 1, 0, none⟩ = some (.bool a') ∧ w'.cell? ⟨w.heap.size + 1, 1, none⟩ = some (.slice A' n' c') ∧ w'.cell? ⟨w.heap.size + 1, 2, none⟩ = some (.bool b') ∧ w'.cell? ⟨w.heap.size + 1, 3, none⟩ = some (.slice B' m' d')) (by kernel_rfl) ?_
  refine wpAnyL_take (i := 0) (v := .agg #[.bool a, .slice A n c, .bool b, .slice B m d]) rfl (by kernel_rfl) (by kernel_rfl) (by kernel_rfl) (by kernel_rfl) (by kernel_rfl) (fun _ _ _ h => h) (Or.inl ⟨by rfl, by rintro w' ⟨h1, h2, h3, h4, h5, h6, h7, h8⟩; go_simp⟩) s1 ?_
  try simp only [Act.put, List.setIfInBounds_toArray, List.set_cons_zero, List.set_cons_succ]
  refine wpAnyL_take (i := 2) (v := .agg #[.bool a', .slice A' n' c', .bool b', .slice B' m' d']) rfl (by kernel_rfl) (by kernel_rfl) (by kernel_rfl) (by kernel_rfl) (by kernel_rfl) (fun _ _ _ h => h) (Or.inl ⟨by rfl, by rintro w' ⟨h1, h2, h3, h4, h5, h6, h7, h8⟩; go_simp⟩) s1 ?_
  try simp only [Act.put, List.setIfInBounds_toArray, List.set_cons_zero, List.set_cons_succ]
  refine wpAnyL_one (i := 1) (by kernel_rfl) rfl (fun K hK => ?_)
  go_simp
  refine (qplain (K := k) (D1.z 3 rfl) (D1.z 2 rfl) (by omega) (by omega) (by omega) h1 HR.out).mono ?_; rintro e w2 ⟨b_x, A_x, n_x, b_x_, A_x_, n_x_, rfl, z_x, z_x_, hb2⟩
  have R2 := (((D1.below hb2).add z_x).add z_x_)
  have s2 := And.intro (R2.cell 2 0 rfl rfl) (And.intro (R2.cell 2 1 rfl rfl) (And.intro (R2.cell 2 2 rfl rfl) (And.intro (R2.cell 2 3 rfl rfl) (And.intro (R2.cell 1 0 rfl rfl) (And.intro (R2.cell 1 1 rfl rfl) (And.intro (R2.cell 1 2 rfl rfl) (R2.cell 1 3 rfl rfl)))))))
  go_wp2_with fail
  refine hK.out _ _ (fun _ => s2) ?_
  clear hK K
  try simp only [Act.put, List.setIfInBounds_toArray, List.set_cons_zero, List.set_cons_succ]
  refine wpAnyL_one (i := 3) (by kernel_rfl) rfl (fun K hK => ?_)
  go_simp
  refine (qplain (K := k) (R2.z 3 rfl) (R2.z 2 rfl) (by omega) (by omega) (by omega) h1 HS.out).mono ?_; rintro e w3 ⟨b_y, A_y, n_y, b_y_, A_y_, n_y_, rfl, z_y, z_y_, hb3⟩
  have R3 := (((R2.below hb3).add z_y).add z_y_)
  have s3 := And.intro (R3.cell 2 0 rfl rfl) (And.intro (R3.cell 2 1 rfl rfl) (And.intro (R3.cell 2 2 rfl rfl) (And.intro (R3.cell 2 3 rfl rfl) (And.intro (R3.cell 1 0 rfl rfl) (And.intro (R3.cell 1 1 rfl rfl) (And.intro (R3.cell 1 2 rfl rfl) (R3.cell 1 3 rfl rfl)))))))
  go_wp2_with fail
  refine hK.out _ _ (fun _ => s3) ?_
  clear hK K
  try simp only [Act.put, List.setIfInBounds_toArray, List.set_cons_zero, List.set_cons_succ]
  have fca0 := R3.cell 2 0 rfl rfl
  have ffa0 := R3.frozen 2 0 rfl
  have fca1 := R3.cell 2 1 rfl rfl
  have ffa1 := R3.frozen 2 1 rfl
  have fca2 := R3.cell 2 2 rfl rfl
  have ffa2 := R3.frozen 2 2 rfl
  have fca3 := R3.cell 2 3 rfl rfl
  have ffa3 := R3.frozen 2 3 rfl
  have fcb0 := R3.cell 1 0 rfl rfl
  have ffb0 := R3.frozen 1 0 rfl
  have fcb1 := R3.cell 1 1 rfl rfl
  have ffb1 := R3.frozen 1 1 rfl
  have fcb2 := R3.cell 1 2 rfl rfl
  have ffb2 := R3.frozen 1 2 rfl
  have fcb3 := R3.cell 1 3 rfl rfl
  have ffb3 := R3.frozen 1 3 rfl
  refine wpAnyL_one (i := 4) (by kernel_rfl) rfl (fun K hK => ?_)
  go_simp
  refine hK.out _ _ (fun h => absurd (by simp) h) ?_
  clear hK K
  try simp only [Act.put, List.setIfInBounds_toArray, List.set_cons_zero, List.set_cons_succ]
  refine wpAnyL_one (i := 5) (by kernel_rfl) rfl (fun K hK => ?_)
  go_simp
  refine hK.out _ _ (fun h => absurd (by simp) h) ?_
  clear hK K
  try simp only [Act.put, List.setIfInBounds_toArray, List.set_cons_zero, List.set_cons_succ]
  refine wpAnyL_done (by kernel_rfl) ?_ _
  clear fca0 ffa0 fca1 ffa1 fca2 ffa2 fca3 ffa3 fcb0 ffb0 fcb1 ffb1 fcb2 ffb2 fcb3 ffb3
  have R4 := ((R3.st4 2 (.bool b_x) (.slice A_x n_x n_x) (.bool b_x_) (.slice A_x_ n_x_ n_x_) rfl rfl rfl rfl rfl).st4 1 (.bool b_y) (.slice A_y n_y n_y) (.bool b_y_) (.slice A_y_ n_y_ n_y_) rfl rfl rfl rfl rfl)
  generalize ((((((((w3.setCell ⟨w.heap.size, 0, none⟩ (.bool b_x)).setCell ⟨w.heap.size, 1, none⟩ (.slice A_x n_x n_x)).setCell ⟨w.heap.size, 2, none⟩ (.bool b_x_)).setCell ⟨w.heap.size, 3, none⟩ (.slice A_x_ n_x_ n_x_)).setCell ⟨w.heap.size + 1, 0, none⟩ (.bool b_y)).setCell ⟨w.heap.size + 1, 1, none⟩ (.slice A_y n_y n_y)).setCell ⟨w.heap.size + 1, 2, none⟩ (.bool b_y_)).setCell ⟨w.heap.size + 1, 3, none⟩ (.slice A_y_ n_y_ n_y_)) = w4 at *
  obtain rfl : n_y = 0 := ((R4.z 1 rfl).zero_iff).2 ((qnum_zero s).2 H0.out)
  have k5b0 := R4.cell 1 0 rfl rfl
  have k5b1 := R4.cell 1 1 rfl rfl
  have k5b2 := R4.cell 1 2 rfl rfl
  have k5b3 := R4.cell 1 3 rfl rfl
  go_wp2_with fail
  clear k5b0 k5b1 k5b2 k5b3
  refine (qzero _).mono ?_; rintro e w5 ⟨b_p, A_p, n_p, b_q, A_q, n_q, rfl, z_p, z_q, hb5⟩
  have R5 := (((R4.below hb5).add z_p).add z_q)
  have zr0 := R5.cell 0 0 rfl rfl
  have zr1 := R5.cell 0 1 rfl rfl
  have zr2 := R5.cell 0 2 rfl rfl
  have zr3 := R5.cell 0 3 rfl rfl
  have zfr0 := R5.frozen 0 0 rfl
  have zfr1 := R5.frozen 0 1 rfl
  have zfr2 := R5.frozen 0 2 rfl
  have zfr3 := R5.frozen 0 3 rfl
  go_wp2_with fail
  have R9_ := R5.st4 0 (.bool b_p) (.slice A_p n_p n_p) (.bool b_q) (.slice A_q n_q n_q) rfl rfl rfl rfl rfl
  refine bodyPost_ret (results_row_tmp rfl _ _ (w.heap.size + 1 + 1) 26 #[.bool b_p, .slice A_p n_p n_p, .bool b_q, .slice A_q n_q n_q] (0, 0) _ rfl (R9_.b 0 rfl).is Tryz.underlying26 rfl (by kernel_rfl)) rfl ?_
  exact ⟨_, _, _, _, _, _, rfl, (R9_.z 1 rfl).mono (by omega), (R9_.z 0 rfl).mono (by omega), R9_.bel⟩
set_option maxRecDepth 100000 in
set_option maxHeartbeats 3200000 in
theorem qdiv {w : World} {a b a' b' : Bool} {A B A' B' : Option Addr} {n c m d n' c' m' d' : Nat} {x y x' y' : Int} {i j i' j' : Nat} {p q p' q' : Bool} (ha : ZIs w a A n c x i p) (hb : ZIs w b B m d y j q) (ha' : ZIs w a' A' n' c' x' i' p') (hb' : ZIs w b' B' m' d' y' j' q') {k : Nat} (hi : i ≤ k) (hj : j ≤ k) (hi' : i' ≤ k) (hj' : j' ≤ k) (hk : k ≤ 65536) (h1 : 1 ≤ k) {r s : Rat} (hr : qv x y = r) (hs : qv x' y' = s) (h0 : s ≠ 0) : Calls Tryz.prog 30 #[.agg #[.bool a, .slice A n c, .bool b, .slice B m d], .agg #[.bool a', .slice A' n' c', .bool b', .slice B' m' d']] w fun e w' => ∃ b3 A3 n3 b4 A4 n4, e = .returned (.tuple #[.agg #[.bool b3, .slice A3 n3 n3, .bool b4, .slice A4 n4 n4], .bool true]) ∧ ZIs w' b3 A3 n3 n3 ((r / s).num) (2 * k) true ∧ ZIs w' b4 A4 n4 n4 (((r / s).den : Nat) : Int) (2 * k) true ∧ Below w.heap.size w w' := by
  have R0 := (((((((Env.nil_ w).add ha).add hb).add ha').add hb').alloc 26 #[.bool a, .slice A n c, .bool b, .slice B m d] (g := w.heap.size) rfl rfl).alloc 26 #[.bool a', .slice A' n' c', .bool b', .slice B' m' d'] (g := w.heap.size + 1) (by simp) rfl).alloc 26 #[.bool false, .slice none 0 0, .bool false, .slice none 0 0] (g := w.heap.size + 1 + 1) (by simp) rfl
  have HR := Lib.hid hr
  have HS := Lib.hid hs
  clear hr hs
  have H0 := Lib.hid h0
  clear h0
  go_enter Tryz.func30, Tryz.ntmps30
  go_wp2_with fail
  have D1 := R0.drew
  have s1 := And.intro (D1.cell 2 0 rfl rfl) (And.intro (D1.cell 2 1 rfl rfl) (And.intro (D1.cell 2 2 rfl rfl) (And.intro (D1.cell 2 3 rfl rfl) (And.intro (D1.cell 1 0 rfl rfl) (And.intro (D1.cell 1 1 rfl rfl) (And.intro (D1.cell 1 2 rfl rfl) (D1.cell 1 3 rfl rfl)))))))
  refine wp_region_late [4, 5] (fun w' => w'.cell? ⟨w.heap.size, 0, none⟩ = some (.bool a) ∧ w'.cell? ⟨w.heap.size, 1, none⟩ = some (.slice A n c) ∧ w'.cell? ⟨w.heap.size, 2, none⟩ = some (.bool b) ∧ w'.cell? ⟨w.heap.size, 3, none⟩ = some (.slice B m d) ∧ w'.cell? ⟨w.heap.size + 1, 0, none⟩ = some (.bool a') ∧ w'.cell? ⟨w.heap.size + 1, 1, none⟩ = some (.slice A' n' c') ∧ w'.cell? ⟨w.heap.size + 1, 2, none⟩ = some (.bool b') ∧ w'.cell? ⟨w.heap.size + 1, 3, none⟩ = some (.slice B' m' d')) (by kernel_rfl) ?_
  refine wpAnyL_take (i := 0) (v := .agg #[.bool a, .slice A n c, .bool b, .slice B m d]) rfl (by kernel_rfl) (by kernel_rfl) (by kernel_rfl) (by kernel_rfl) (by kernel_rfl) (fun _ _ _ h => h) (Or.inl ⟨by rfl, by rintro w' ⟨h1, h2, h3, h4, h5, h6, h7, h8⟩; go_simp⟩) s1 ?_
  try simp only [Act.put, List.setIfInBounds_toArray, List.set_cons_zero, List.set_cons_succ]
  refine wpAnyL_take (i := 2) (v := .agg #[.bool a', .slice A' n' c', .bool b', .slice B' m' d']) rfl (by kernel_rfl) (by kernel_rfl) (by kernel_rfl) (by kernel_rfl) (by kernel_rfl) (fun _ _ _ h => h) (Or.inl ⟨by rfl, by rintro w' ⟨h1, h2, h3, h4, h5, h6, h7, h8⟩; go_simp⟩) s1 ?_
  try simp only [Act.put, List.setIfInBounds_toArray, List.set_cons_zero, List.set_cons_succ]
  refine wpAnyL_one (i := 1) (by kernel_rfl) rfl (fun K hK => ?_)
  go_simp
  refine (qplain (K := k) (D1.z 3 rfl) (D1.z 2 rfl) (by omega) (by omega) (by omega) h1 HR.out).mono ?_; rintro e w2 ⟨b_x, A_x, n_x, b_x_, A_x_, n_x_, rfl, z_x, z_x_, hb2⟩
  have R2 := (((D1.below hb2).add z_x).add z_x_)
  have s2 := And.intro (R2.cell 2 0 rfl rfl) (And.intro (R2.cell 2 1 rfl rfl) (And.intro (R2.cell 2 2 rfl rfl) (And.intro (R2.cell 2 3 rfl rfl) (And.intro (R2.cell 1 0 rfl rfl) (And.intro (R2.cell 1 1 rfl rfl) (And.intro (R2.cell 1 2 rfl rfl) (R2.cell 1 3 rfl rfl)))))))
  go_wp2_with fail
  refine hK.out _ _ (fun _ => s2) ?_
  clear hK K
  try simp only [Act.put, List.setIfInBounds_toArray, List.set_cons_zero, List.set_cons_succ]
  refine wpAnyL_one (i := 3) (by kernel_rfl) rfl (fun K hK => ?_)
  go_simp
  refine (qplain (K := k) (R2.z 3 rfl) (R2.z 2 rfl) (by omega) (by omega) (by omega) h1 HS.out).mono ?_; rintro e w3 ⟨b_y, A_y, n_y, b_y_, A_y_, n_y_, rfl, z_y, z_y_, hb3⟩
  have R3 := (((R2.below hb3).add z_y).add z_y_)
  have s3 := And.intro (R3.cell 2 0 rfl rfl) (And.intro (R3.cell 2 1 rfl rfl) (And.intro (R3.cell 2 2 rfl rfl) (And.intro (R3.cell 2 3 rfl rfl) (And.intro (R3.cell 1 0 rfl rfl) (And.intro (R3.cell 1 1 rfl rfl) (And.intro (R3.cell 1 2 rfl rfl) (R3.cell 1 3 rfl rfl)))))))
  go_wp2_with fail
  refine hK.out _ _ (fun _ => s3) ?_
  clear hK K
  try simp only [Act.put, List.setIfInBounds_toArray, List.set_cons_zero, List.set_cons_succ]
  have fca0 := R3.cell 2 0 rfl rfl
  have ffa0 := R3.frozen 2 0 rfl
  have fca1 := R3.cell 2 1 rfl rfl
  have ffa1 := R3.frozen 2 1 rfl
  have fca2 := R3.cell 2 2 rfl rfl
  have ffa2 := R3.frozen 2 2 rfl
  have fca3 := R3.cell 2 3 rfl rfl
  have ffa3 := R3.frozen 2 3 rfl
  have fcb0 := R3.cell 1 0 rfl rfl
  have ffb0 := R3.frozen 1 0 rfl
  have fcb1 := R3.cell 1 1 rfl rfl
  have ffb1 := R3.frozen 1 1 rfl
  have fcb2 := R3.cell 1 2 rfl rfl
  have ffb2 := R3.frozen 1 2 rfl
  have fcb3 := R3.cell 1 3 rfl rfl
  have ffb3 := R3.frozen 1 3 rfl
  refine wpAnyL_one (i := 4) (by kernel_rfl) rfl (fun K hK => ?_)
  go_simp
  refine hK.out _ _ (fun h => absurd (by simp) h) ?_
  clear hK K
  try simp only [Act.put, List.setIfInBounds_toArray, List.set_cons_zero, List.set_cons_succ]
  refine wpAnyL_one (i := 5) (by kernel_rfl) rfl (fun K hK => ?_)
  go_simp
  refine hK.out _ _ (fun h => absurd (by simp) h) ?_
  clear hK K
  try simp only [Act.put, List.setIfInBounds_toArray, List.set_cons_zero, List.set_cons_succ]
  refine wpAnyL_done (by kernel_rfl) ?_ _
  clear fca0 ffa0 fca1 ffa1 fca2 ffa2 fca3 ffa3 fcb0 ffb0 fcb1 ffb1 fcb2 ffb2 fcb3 ffb3
  have R4 := ((R3.st4 2 (.bool b_x) (.slice A_x n_x n_x) (.bool b_x_) (.slice A_x_ n_x_ n_x_) rfl rfl rfl rfl rfl).st4 1 (.bool b_y) (.slice A_y n_y n_y) (.bool b_y_) (.slice A_y_ n_y_ n_y_) rfl rfl rfl rfl rfl)
  generalize ((((((((w3.setCell ⟨w.heap.size, 0, none⟩ (.bool b_x)).setCell ⟨w.heap.size, 1, none⟩ (.slice A_x n_x n_x)).setCell ⟨w.heap.size, 2, none⟩ (.bool b_x_)).setCell ⟨w.heap.size, 3, none⟩ (.slice A_x_ n_x_ n_x_)).setCell ⟨w.heap.size + 1, 0, none⟩ (.bool b_y)).setCell ⟨w.heap.size + 1, 1, none⟩ (.slice A_y n_y n_y)).setCell ⟨w.heap.size + 1, 2, none⟩ (.bool b_y_)).setCell ⟨w.heap.size + 1, 3, none⟩ (.slice A_y_ n_y_ n_y_)) = w4 at *
  have hny : n_y ≠ 0 := fun h => H0.out ((qnum_zero s).1 (((R4.z 1 rfl).zero_iff).1 h))
  have hnb : ((n_y : Int) == 0) = false := by simpa using hny
  clear hny
  have kb0 := R4.cell 1 0 rfl rfl
  have kb1 := R4.cell 1 1 rfl rfl
  have kb2 := R4.cell 1 2 rfl rfl
  have kb3 := R4.cell 1 3 rfl rfl
  go_wp2_with fail
  clear kb0 kb1 kb2 kb3
  have D5 := R4.drew
  have s5 := And.intro (D5.cell 2 0 rfl rfl) (And.intro (D5.cell 2 1 rfl rfl) (And.intro (D5.cell 2 2 rfl rfl) (And.intro (D5.cell 2 3 rfl rfl) (And.intro (D5.cell 1 0 rfl rfl) (And.intro (D5.cell 1 1 rfl rfl) (And.intro (D5.cell 1 2 rfl rfl) (D5.cell 1 3 rfl rfl)))))))
  refine wp_region_late [11, 12] (fun w' => w'.cell? ⟨w.heap.size, 0, none⟩ = some (.bool b_x) ∧ w'.cell? ⟨w.heap.size, 1, none⟩ = some (.slice A_x n_x n_x) ∧ w'.cell? ⟨w.heap.size, 2, none⟩ = some (.bool b_x_) ∧ w'.cell? ⟨w.heap.size, 3, none⟩ = some (.slice A_x_ n_x_ n_x_) ∧ w'.cell? ⟨w.heap.size + 1, 0, none⟩ = some (.bool b_y) ∧ w'.cell? ⟨w.heap.size + 1, 1, none⟩ = some (.slice A_y n_y n_y) ∧ w'.cell? ⟨w.heap.size + 1, 2, none⟩ = some (.bool b_y_) ∧ w'.cell? ⟨w.heap.size + 1, 3, none⟩ = some (.slice A_y_ n_y_ n_y_)) (by kernel_rfl) ?_
  refine wpAnyL_take (i := 0) (v := ?_) rfl (by kernel_rfl) (by kernel_rfl) (by kernel_rfl) (by kernel_rfl) (by kernel_rfl) (fun _ _ _ h => h) (Or.inl ⟨by kernel_rfl, ?_⟩) s5 ?_
  rotate_left
  · rintro w' ⟨h1, h2, h3, h4, h5, h6, h7, h8⟩; go_simp; (try with_reducible rfl)
  try simp only [Act.put, List.setIfInBounds_toArray, List.set_cons_zero, List.set_cons_succ]
  refine wpAnyL_take (i := 1) (v := .agg #[.bool b_x, .slice A_x n_x n_x]) rfl (by kernel_rfl) (by kernel_rfl) (by kernel_rfl) (by kernel_rfl) (by kernel_rfl) (fun _ _ _ h => h) (Or.inl ⟨by rfl, by rintro w' ⟨h1, h2, h3, h4, h5, h6, h7, h8⟩; go_simp⟩) s5 ?_
  try simp only [Act.put, List.setIfInBounds_toArray, List.set_cons_zero, List.set_cons_succ]
  refine wpAnyL_take (i := 2) (v := ?_) rfl (by kernel_rfl) (by kernel_rfl) (by kernel_rfl) (by kernel_rfl) (by kernel_rfl) (fun _ _ _ h => h) (Or.inl ⟨by kernel_rfl, ?_⟩) s5 ?_
  rotate_left
  · rintro w' ⟨h1, h2, h3, h4, h5, h6, h7, h8⟩; go_simp; (try with_reducible rfl)
  try simp only [Act.put, List.setIfInBounds_toArray, List.set_cons_zero, List.set_cons_succ]
  refine wpAnyL_take (i := 3) (v := .agg #[.bool b_y_, .slice A_y_ n_y_ n_y_]) rfl (by kernel_rfl) (by kernel_rfl) (by kernel_rfl) (by kernel_rfl) (by kernel_rfl) (fun _ _ _ h => h) (Or.inl ⟨by rfl, by rintro w' ⟨h1, h2, h3, h4, h5, h6, h7, h8⟩; go_simp⟩) s5 ?_
  try simp only [Act.put, List.setIfInBounds_toArray, List.set_cons_zero, List.set_cons_succ]
  refine wpAnyL_take (i := 5) (v := ?_) rfl (by kernel_rfl) (by kernel_rfl) (by kernel_rfl) (by kernel_rfl) (by kernel_rfl) (fun _ _ _ h => h) (Or.inl ⟨by kernel_rfl, ?_⟩) s5 ?_
  rotate_left
  · rintro w' ⟨h1, h2, h3, h4, h5, h6, h7, h8⟩; go_simp; (try with_reducible rfl)
  try simp only [Act.put, List.setIfInBounds_toArray, List.set_cons_zero, List.set_cons_succ]
  refine wpAnyL_take (i := 6) (v := .agg #[.bool b_x_, .slice A_x_ n_x_ n_x_]) rfl (by kernel_rfl) (by kernel_rfl) (by kernel_rfl) (by kernel_rfl) (by kernel_rfl) (fun _ _ _ h => h) (Or.inl ⟨by rfl, by rintro w' ⟨h1, h2, h3, h4, h5, h6, h7, h8⟩; go_simp⟩) s5 ?_
  try simp only [Act.put, List.setIfInBounds_toArray, List.set_cons_zero, List.set_cons_succ]
  refine wpAnyL_take (i := 7) (v := ?_) rfl (by kernel_rfl) (by kernel_rfl) (by kernel_rfl) (by kernel_rfl) (by kernel_rfl) (fun _ _ _ h => h) (Or.inl ⟨by kernel_rfl, ?_⟩) s5 ?_
  rotate_left
  · rintro w' ⟨h1, h2, h3, h4, h5, h6, h7, h8⟩; go_simp; (try with_reducible rfl)
  try simp only [Act.put, List.setIfInBounds_toArray, List.set_cons_zero, List.set_cons_succ]
  refine wpAnyL_take (i := 8) (v := .agg #[.bool b_y, .slice A_y n_y n_y]) rfl (by kernel_rfl) (by kernel_rfl) (by kernel_rfl) (by kernel_rfl) (by kernel_rfl) (fun _ _ _ h => h) (Or.inl ⟨by rfl, by rintro w' ⟨h1, h2, h3, h4, h5, h6, h7, h8⟩; go_simp⟩) s5 ?_
  try simp only [Act.put, List.setIfInBounds_toArray, List.set_cons_zero, List.set_cons_succ]
  refine wpAnyL_one (i := 4) (by kernel_rfl) rfl (fun K hK => ?_)
  go_simp
  refine (zmul (K := 2 * k) (D5.z 3 rfl) (D5.z 0 rfl) (by omega) (by omega) (by omega)).mono ?_; rintro e w6 ⟨b_m1, A_m1, n_m1, rfl, z_m1, hb6⟩
  have R6 := ((D5.below hb6).add z_m1)
  have s6 := And.intro (R6.cell 2 0 rfl rfl) (And.intro (R6.cell 2 1 rfl rfl) (And.intro (R6.cell 2 2 rfl rfl) (And.intro (R6.cell 2 3 rfl rfl) (And.intro (R6.cell 1 0 rfl rfl) (And.intro (R6.cell 1 1 rfl rfl) (And.intro (R6.cell 1 2 rfl rfl) (R6.cell 1 3 rfl rfl)))))))
  go_wp2_with fail
  refine hK.out _ _ (fun _ => s6) ?_
  clear hK K
  try simp only [Act.put, List.setIfInBounds_toArray, List.set_cons_zero, List.set_cons_succ]
  refine wpAnyL_one (i := 9) (by kernel_rfl) rfl (fun K hK => ?_)
  go_simp
  refine (zmul (K := 2 * k) (R6.z 3 rfl) (R6.z 2 rfl) (by omega) (by omega) (by omega)).mono ?_; rintro e w7 ⟨b_m2, A_m2, n_m2, rfl, z_m2, hb7⟩
  have R7 := ((R6.below hb7).add z_m2)
  have s7 := And.intro (R7.cell 2 0 rfl rfl) (And.intro (R7.cell 2 1 rfl rfl) (And.intro (R7.cell 2 2 rfl rfl) (And.intro (R7.cell 2 3 rfl rfl) (And.intro (R7.cell 1 0 rfl rfl) (And.intro (R7.cell 1 1 rfl rfl) (And.intro (R7.cell 1 2 rfl rfl) (R7.cell 1 3 rfl rfl)))))))
  go_wp2_with fail
  refine hK.out _ _ (fun _ => s7) ?_
  clear hK K
  try simp only [Act.put, List.setIfInBounds_toArray, List.set_cons_zero, List.set_cons_succ]
  refine wpAnyL_one (i := 10) (by kernel_rfl) rfl (fun K hK => ?_)
  go_simp
  refine (qby (R7.z 1 rfl) (R7.z 0 rfl) (by omega) (by omega) (Int.mul_ne_zero (Int.ne_of_gt (qden_pos r)) (fun h => H0.out ((qnum_zero s).1 h))) (qdivi_of r s)).mono ?_; rintro e w8 ⟨b_p, A_p, n_p, b_q, A_q, n_q, rfl, z_p, z_q, hb8⟩
  have R8 := (((R7.below hb8).add z_p).add z_q)
  have s8 := And.intro (R8.cell 2 0 rfl rfl) (And.intro (R8.cell 2 1 rfl rfl) (And.intro (R8.cell 2 2 rfl rfl) (And.intro (R8.cell 2 3 rfl rfl) (And.intro (R8.cell 1 0 rfl rfl) (And.intro (R8.cell 1 1 rfl rfl) (And.intro (R8.cell 1 2 rfl rfl) (R8.cell 1 3 rfl rfl)))))))
  go_wp2_with fail
  refine hK.out _ _ (fun _ => s8) ?_
  clear hK K
  try simp only [Act.put, List.setIfInBounds_toArray, List.set_cons_zero, List.set_cons_succ]
  have fcr0 := R8.cell 0 0 rfl rfl
  have ffr0 := R8.frozen 0 0 rfl
  have fcr1 := R8.cell 0 1 rfl rfl
  have ffr1 := R8.frozen 0 1 rfl
  have fcr2 := R8.cell 0 2 rfl rfl
  have ffr2 := R8.frozen 0 2 rfl
  have fcr3 := R8.cell 0 3 rfl rfl
  have ffr3 := R8.frozen 0 3 rfl
  refine wpAnyL_one (i := 11) (by kernel_rfl) rfl (fun K hK => ?_)
  go_simp
  refine hK.out _ _ (fun h => absurd (by simp) h) ?_
  clear hK K
  try simp only [Act.put, List.setIfInBounds_toArray, List.set_cons_zero, List.set_cons_succ]
  refine wpAnyL_one (i := 12) (by kernel_rfl) rfl (fun K hK => ?_)
  go_simp
  refine hK.out _ _ (fun h => absurd (by simp) h) ?_
  clear hK K
  try simp only [Act.put, List.setIfInBounds_toArray, List.set_cons_zero, List.set_cons_succ]
  refine wpAnyL_done (by kernel_rfl) ?_ _
  clear fcr0 ffr0 fcr1 ffr1 fcr2 ffr2 fcr3 ffr3
  have R9 := (R8.st4 0 (.bool b_p) (.slice A_p n_p n_p) (.bool b_q) (.slice A_q n_q n_q) rfl rfl rfl rfl rfl)
  generalize ((((w8.setCell ⟨w.heap.size + 1 + 1, 0, none⟩ (.bool b_p)).setCell ⟨w.heap.size + 1 + 1, 1, none⟩ (.slice A_p n_p n_p)).setCell ⟨w.heap.size + 1 + 1, 2, none⟩ (.bool b_q)).setCell ⟨w.heap.size + 1 + 1, 3, none⟩ (.slice A_q n_q n_q)) = w9 at *
  go_wp2_with fail
  refine bodyPost_ret (results_row_tmp rfl _ _ (w.heap.size + 1 + 1) 26 #[.bool b_p, .slice A_p n_p n_p, .bool b_q, .slice A_q n_q n_q] (0, 0) _ rfl (R9.b 0 rfl).is Tryz.underlying26 rfl (by kernel_rfl)) rfl ?_
  exact ⟨_, _, _, _, _, _, rfl, (R9.z 1 rfl).mono (by omega), (R9.z 0 rfl).mono (by omega), R9.bel⟩
end Go.Proofs.YticjhlbmdjijnaaGreatDoor
