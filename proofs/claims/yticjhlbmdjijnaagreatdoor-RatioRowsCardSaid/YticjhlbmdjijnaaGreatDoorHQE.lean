/- The contracts of package ratio: Add, Sub, Mul. No condition but the reach of a slice. -/
import Derived.Test.YticjhlbmdjijnaaGreatDoorHQD
namespace Go.Proofs.YticjhlbmdjijnaaGreatDoor
set_option linter.unusedSimpArgs false
set_option linter.unusedVariables false
open Go.RowKit

set_option maxRecDepth 100000 in
set_option maxHeartbeats 3200000 in
theorem qadd2 {w : World} {a b a' b' : Bool} {A B A' B' : Option Addr} {n c m d n' c' m' d' : Nat} {x y x' y' : Int} {i j i' j' : Nat} {p q p' q' : Bool} (ha : ZIs w a A n c x i p) (hb : ZIs w b B m d y j q) (ha' : ZIs w a' A' n' c' x' i' p') (hb' : ZIs w b' B' m' d' y' j' q') {k : Nat} (hi : i ≤ k) (hj : j ≤ k) (hi' : i' ≤ k) (hj' : j' ≤ k) (hk : k ≤ 65536) (h1 : 1 ≤ k) {r s : Rat} (hr : qv x y = r) (hs : qv x' y' = s) : Calls Tryz.prog 66 #[.agg #[.bool a, .slice A n c, .bool b, .slice B m d], .agg #[.bool a', .slice A' n' c', .bool b', .slice B' m' d'], .func (.func 75) #[] #[]] w fun e w' => ∃ b3 A3 n3 b4 A4 n4, e = .returned (.agg #[.bool b3, .slice A3 n3 n3, .bool b4, .slice A4 n4 n4]) ∧ ZIs w' b3 A3 n3 n3 ((r + s).num) (2 * k + 1) true ∧ ZIs w' b4 A4 n4 n4 (((r + s).den : Nat) : Int) (2 * k + 1) true ∧ Below w.heap.size w w' := by
  have R0 := (((((((Env.nil_ w).add ha).add hb).add ha').add hb').alloc 26 #[.bool a, .slice A n c, .bool b, .slice B m d] (g := w.heap.size) rfl rfl).alloc 26 #[.bool a', .slice A' n' c', .bool b', .slice B' m' d'] (g := w.heap.size + 1) (by simp) rfl).alloc 26 #[.bool false, .slice none 0 0, .bool false, .slice none 0 0] (g := w.heap.size + 1 + 1) (by simp) rfl
  have HR := Lib.hid hr
  have HS := Lib.hid hs
  clear hr hs
  go_enter Tryz.func66, Tryz.ntmps66
  go_wp2_with fail
  have D1 := R0.drew
  have s1 := And.intro (D1.cell 2 0 rfl rfl) (And.intro (D1.cell 2 1 rfl rfl) (And.intro (D1.cell 2 2 rfl rfl) (And.intro (D1.cell 2 3 rfl rfl) (And.intro (D1.cell 1 0 rfl rfl) (And.intro (D1.cell 1 1 rfl rfl) (And.intro (D1.cell 1 2 rfl rfl) (D1.cell 1 3 rfl rfl)))))))
  refine wp_region_late [6] (fun w' => w'.cell? ⟨w.heap.size, 0, none⟩ = some (.bool a) ∧ w'.cell? ⟨w.heap.size, 1, none⟩ = some (.slice A n c) ∧ w'.cell? ⟨w.heap.size, 2, none⟩ = some (.bool b) ∧ w'.cell? ⟨w.heap.size, 3, none⟩ = some (.slice B m d) ∧ w'.cell? ⟨w.heap.size + 1, 0, none⟩ = some (.bool a') ∧ w'.cell? ⟨w.heap.size + 1, 1, none⟩ = some (.slice A' n' c') ∧ w'.cell? ⟨w.heap.size + 1, 2, none⟩ = some (.bool b') ∧ w'.cell? ⟨w.heap.size + 1, 3, none⟩ = some (.slice B' m' d')) (by kernel_rfl) ?_
  refine wpAnyL_take (i := 0) (v := ?_) rfl (by kernel_rfl) (by kernel_rfl) (by kernel_rfl) (by kernel_rfl) (by kernel_rfl) (fun _ _ _ h => h) (Or.inl ⟨by kernel_rfl, ?_⟩) s1 ?_
  rotate_left
  · rintro w' ⟨h1, h2, h3, h4, h5, h6, h7, h8⟩; go_simp; (try with_reducible rfl)
  try simp only [Act.put, List.setIfInBounds_toArray, List.set_cons_zero, List.set_cons_succ]
  refine wpAnyL_take (i := 1) (v := .agg #[.bool a, .slice A n c, .bool b, .slice B m d]) rfl (by kernel_rfl) (by kernel_rfl) (by kernel_rfl) (by kernel_rfl) (by kernel_rfl) (fun _ _ _ h => h) (Or.inl ⟨by rfl, by rintro w' ⟨h1, h2, h3, h4, h5, h6, h7, h8⟩; go_simp⟩) s1 ?_
  try simp only [Act.put, List.setIfInBounds_toArray, List.set_cons_zero, List.set_cons_succ]
  refine wpAnyL_take (i := 3) (v := .agg #[.bool a', .slice A' n' c', .bool b', .slice B' m' d']) rfl (by kernel_rfl) (by kernel_rfl) (by kernel_rfl) (by kernel_rfl) (by kernel_rfl) (fun _ _ _ h => h) (Or.inl ⟨by rfl, by rintro w' ⟨h1, h2, h3, h4, h5, h6, h7, h8⟩; go_simp⟩) s1 ?_
  try simp only [Act.put, List.setIfInBounds_toArray, List.set_cons_zero, List.set_cons_succ]
  refine wpAnyL_one (i := 2) (by kernel_rfl) rfl (fun K hK => ?_)
  go_simp
  refine (qplain (K := k) (D1.z 3 rfl) (D1.z 2 rfl) (by omega) (by omega) (by omega) h1 HR.out).mono ?_; rintro e w2 ⟨b_x, A_x, n_x, b_x_, A_x_, n_x_, rfl, z_x, z_x_, hb2⟩
  have R2 := (((D1.below hb2).add z_x).add z_x_)
  have s2 := And.intro (R2.cell 2 0 rfl rfl) (And.intro (R2.cell 2 1 rfl rfl) (And.intro (R2.cell 2 2 rfl rfl) (And.intro (R2.cell 2 3 rfl rfl) (And.intro (R2.cell 1 0 rfl rfl) (And.intro (R2.cell 1 1 rfl rfl) (And.intro (R2.cell 1 2 rfl rfl) (R2.cell 1 3 rfl rfl)))))))
  go_wp2_with fail
  refine hK.out _ _ (fun _ => s2) ?_
  clear hK K
  try simp only [Act.put, List.setIfInBounds_toArray, List.set_cons_zero, List.set_cons_succ]
  refine wpAnyL_one (i := 4) (by kernel_rfl) rfl (fun K hK => ?_)
  go_simp
  refine (qplain (K := k) (R2.z 3 rfl) (R2.z 2 rfl) (by omega) (by omega) (by omega) h1 HS.out).mono ?_; rintro e w3 ⟨b_y, A_y, n_y, b_y_, A_y_, n_y_, rfl, z_y, z_y_, hb3⟩
  have R3 := (((R2.below hb3).add z_y).add z_y_)
  have s3 := And.intro (R3.cell 2 0 rfl rfl) (And.intro (R3.cell 2 1 rfl rfl) (And.intro (R3.cell 2 2 rfl rfl) (And.intro (R3.cell 2 3 rfl rfl) (And.intro (R3.cell 1 0 rfl rfl) (And.intro (R3.cell 1 1 rfl rfl) (And.intro (R3.cell 1 2 rfl rfl) (R3.cell 1 3 rfl rfl)))))))
  go_wp2_with fail
  refine hK.out _ _ (fun _ => s3) ?_
  clear hK K
  try simp only [Act.put, List.setIfInBounds_toArray, List.set_cons_zero, List.set_cons_succ]
  refine wpAnyL_one (i := 5) (by kernel_rfl) rfl (fun K hK => ?_)
  go_simp
  refine (qadd1 (R3.z 3 rfl) (R3.z 2 rfl) (R3.z 1 rfl) (R3.z 0 rfl) (Nat.le_refl _) (Nat.le_refl _) (Nat.le_refl _) (Nat.le_refl _) hk).mono ?_; rintro e w4 ⟨b_p, A_p, n_p, b_q, A_q, n_q, rfl, z_p, z_q, hb4⟩
  have R4 := (((R3.below hb4).add z_p).add z_q)
  have s4 := And.intro (R4.cell 2 0 rfl rfl) (And.intro (R4.cell 2 1 rfl rfl) (And.intro (R4.cell 2 2 rfl rfl) (And.intro (R4.cell 2 3 rfl rfl) (And.intro (R4.cell 1 0 rfl rfl) (And.intro (R4.cell 1 1 rfl rfl) (And.intro (R4.cell 1 2 rfl rfl) (R4.cell 1 3 rfl rfl)))))))
  go_wp2_with fail
  refine hK.out _ _ (fun _ => s4) ?_
  clear hK K
  try simp only [Act.put, List.setIfInBounds_toArray, List.set_cons_zero, List.set_cons_succ]
  have fcr0 := R4.cell 0 0 rfl rfl
  have ffr0 := R4.frozen 0 0 rfl
  have fcr1 := R4.cell 0 1 rfl rfl
  have ffr1 := R4.frozen 0 1 rfl
  have fcr2 := R4.cell 0 2 rfl rfl
  have ffr2 := R4.frozen 0 2 rfl
  have fcr3 := R4.cell 0 3 rfl rfl
  have ffr3 := R4.frozen 0 3 rfl
  refine wpAnyL_one (i := 6) (by kernel_rfl) rfl (fun K hK => ?_)
  go_simp
  refine hK.out _ _ (fun h => absurd (by simp) h) ?_
  clear hK K
  try simp only [Act.put, List.setIfInBounds_toArray, List.set_cons_zero, List.set_cons_succ]
  refine wpAnyL_done (by kernel_rfl) ?_ _
  clear fcr0 ffr0 fcr1 ffr1 fcr2 ffr2 fcr3 ffr3
  have R5 := (R4.st4 0 (.bool b_p) (.slice A_p n_p n_p) (.bool b_q) (.slice A_q n_q n_q) rfl rfl rfl rfl rfl)
  generalize ((((w4.setCell ⟨w.heap.size + 1 + 1, 0, none⟩ (.bool b_p)).setCell ⟨w.heap.size + 1 + 1, 1, none⟩ (.slice A_p n_p n_p)).setCell ⟨w.heap.size + 1 + 1, 2, none⟩ (.bool b_q)).setCell ⟨w.heap.size + 1 + 1, 3, none⟩ (.slice A_q n_q n_q)) = w5 at *
  go_wp2_with fail
  refine bodyPost_ret (results_cell_row rfl _ _ (w.heap.size + 1 + 1) 26 #[.bool b_p, .slice A_p n_p n_p, .bool b_q, .slice A_q n_q n_q] (0, 0) _ rfl (R5.b 0 rfl).is Tryz.underlying26 rfl (by kernel_rfl)) rfl ?_
  exact ⟨_, _, _, _, _, _, rfl, (R5.z 1 rfl), (R5.z 0 rfl), R5.bel⟩
set_option maxRecDepth 100000 in
set_option maxHeartbeats 1600000 in
theorem qadd {w : World} {a b a' b' : Bool} {A B A' B' : Option Addr} {n c m d n' c' m' d' : Nat} {x y x' y' : Int} {i j i' j' : Nat} {p q p' q' : Bool} (ha : ZIs w a A n c x i p) (hb : ZIs w b B m d y j q) (ha' : ZIs w a' A' n' c' x' i' p') (hb' : ZIs w b' B' m' d' y' j' q') {k : Nat} (hi : i ≤ k) (hj : j ≤ k) (hi' : i' ≤ k) (hj' : j' ≤ k) (hk : k ≤ 65536) (h1 : 1 ≤ k) {r s : Rat} (hr : qv x y = r) (hs : qv x' y' = s) : Calls Tryz.prog 36 #[.agg #[.bool a, .slice A n c, .bool b, .slice B m d], .agg #[.bool a', .slice A' n' c', .bool b', .slice B' m' d']] w fun e w' => ∃ b3 A3 n3 b4 A4 n4, e = .returned (.agg #[.bool b3, .slice A3 n3 n3, .bool b4, .slice A4 n4 n4]) ∧ ZIs w' b3 A3 n3 n3 ((r + s).num) (2 * k + 1) true ∧ ZIs w' b4 A4 n4 n4 (((r + s).den : Nat) : Int) (2 * k + 1) true ∧ Below w.heap.size w w' := by
  have R0 := (((((((Env.nil_ w).add ha).add hb).add ha').add hb').alloc 26 #[.bool a, .slice A n c, .bool b, .slice B m d] (g := w.heap.size) rfl rfl).alloc 26 #[.bool a', .slice A' n' c', .bool b', .slice B' m' d'] (g := w.heap.size + 1) (by simp) rfl).alloc 26 #[.bool false, .slice none 0 0, .bool false, .slice none 0 0] (g := w.heap.size + 1 + 1) (by simp) rfl
  have HR := Lib.hid hr
  have HS := Lib.hid hs
  clear hr hs
  go_enter Tryz.func36, Tryz.ntmps36
  have k1a0 := R0.cell 2 0 rfl rfl
  have k1a1 := R0.cell 2 1 rfl rfl
  have k1a2 := R0.cell 2 2 rfl rfl
  have k1a3 := R0.cell 2 3 rfl rfl
  have k1b0 := R0.cell 1 0 rfl rfl
  have k1b1 := R0.cell 1 1 rfl rfl
  have k1b2 := R0.cell 1 2 rfl rfl
  have k1b3 := R0.cell 1 3 rfl rfl
  go_wp2_with fail
  clear k1a0 k1a1 k1a2 k1a3 k1b0 k1b1 k1b2 k1b3
  refine (qadd2 (R0.z 3 rfl) (R0.z 2 rfl) (R0.z 1 rfl) (R0.z 0 rfl) hi hj hi' hj' hk h1 HR.out HS.out).mono ?_; rintro e w1 ⟨b_p, A_p, n_p, b_q, A_q, n_q, rfl, z_p, z_q, hb1⟩
  have R1 := (((R0.below hb1).add z_p).add z_q)
  have zr0 := R1.cell 0 0 rfl rfl
  have zr1 := R1.cell 0 1 rfl rfl
  have zr2 := R1.cell 0 2 rfl rfl
  have zr3 := R1.cell 0 3 rfl rfl
  have zfr0 := R1.frozen 0 0 rfl
  have zfr1 := R1.frozen 0 1 rfl
  have zfr2 := R1.frozen 0 2 rfl
  have zfr3 := R1.frozen 0 3 rfl
  go_wp2_with fail
  have R9_ := R1.st4 0 (.bool b_p) (.slice A_p n_p n_p) (.bool b_q) (.slice A_q n_q n_q) rfl rfl rfl rfl rfl
  refine bodyPost_ret (results_cell_row rfl _ _ (w.heap.size + 1 + 1) 26 #[.bool b_p, .slice A_p n_p n_p, .bool b_q, .slice A_q n_q n_q] (0, 0) _ rfl (R9_.b 0 rfl).is Tryz.underlying26 rfl (by kernel_rfl)) rfl ?_
  exact ⟨_, _, _, _, _, _, rfl, (R9_.z 1 rfl), (R9_.z 0 rfl), R9_.bel⟩
set_option maxRecDepth 100000 in
set_option maxHeartbeats 3200000 in
theorem qsub2 {w : World} {a b a' b' : Bool} {A B A' B' : Option Addr} {n c m d n' c' m' d' : Nat} {x y x' y' : Int} {i j i' j' : Nat} {p q p' q' : Bool} (ha : ZIs w a A n c x i p) (hb : ZIs w b B m d y j q) (ha' : ZIs w a' A' n' c' x' i' p') (hb' : ZIs w b' B' m' d' y' j' q') {k : Nat} (hi : i ≤ k) (hj : j ≤ k) (hi' : i' ≤ k) (hj' : j' ≤ k) (hk : k ≤ 65536) (h1 : 1 ≤ k) {r s : Rat} (hr : qv x y = r) (hs : qv x' y' = s) : Calls Tryz.prog 66 #[.agg #[.bool a, .slice A n c, .bool b, .slice B m d], .agg #[.bool a', .slice A' n' c', .bool b', .slice B' m' d'], .func (.func 67) #[] #[]] w fun e w' => ∃ b3 A3 n3 b4 A4 n4, e = .returned (.agg #[.bool b3, .slice A3 n3 n3, .bool b4, .slice A4 n4 n4]) ∧ ZIs w' b3 A3 n3 n3 ((r - s).num) (2 * k + 1) true ∧ ZIs w' b4 A4 n4 n4 (((r - s).den : Nat) : Int) (2 * k + 1) true ∧ Below w.heap.size w w' := by
  have R0 := (((((((Env.nil_ w).add ha).add hb).add ha').add hb').alloc 26 #[.bool a, .slice A n c, .bool b, .slice B m d] (g := w.heap.size) rfl rfl).alloc 26 #[.bool a', .slice A' n' c', .bool b', .slice B' m' d'] (g := w.heap.size + 1) (by simp) rfl).alloc 26 #[.bool false, .slice none 0 0, .bool false, .slice none 0 0] (g := w.heap.size + 1 + 1) (by simp) rfl
  have HR := Lib.hid hr
  have HS := Lib.hid hs
  clear hr hs
  go_enter Tryz.func66, Tryz.ntmps66
  go_wp2_with fail
  have D1 := R0.drew
  have s1 := And.intro (D1.cell 2 0 rfl rfl) (And.intro (D1.cell 2 1 rfl rfl) (And.intro (D1.cell 2 2 rfl rfl) (And.intro (D1.cell 2 3 rfl rfl) (And.intro (D1.cell 1 0 rfl rfl) (And.intro (D1.cell 1 1 rfl rfl) (And.intro (D1.cell 1 2 rfl rfl) (D1.cell 1 3 rfl rfl)))))))
  refine wp_region_late [6] (fun w' => w'.cell? ⟨w.heap.size, 0, none⟩ = some (.bool a) ∧ w'.cell? ⟨w.heap.size, 1, none⟩ = some (.slice A n c) ∧ w'.cell? ⟨w.heap.size, 2, none⟩ = some (.bool b) ∧ w'.cell? ⟨w.heap.size, 3, none⟩ = some (.slice B m d) ∧ w'.cell? ⟨w.heap.size + 1, 0, none⟩ = some (.bool a') ∧ w'.cell? ⟨w.heap.size + 1, 1, none⟩ = some (.slice A' n' c') ∧ w'.cell? ⟨w.heap.size + 1, 2, none⟩ = some (.bool b') ∧ w'.cell? ⟨w.heap.size + 1, 3, none⟩ = some (.slice B' m' d')) (by kernel_rfl) ?_
  refine wpAnyL_take (i := 0) (v := ?_) rfl (by kernel_rfl) (by kernel_rfl) (by kernel_rfl) (by kernel_rfl) (by kernel_rfl) (fun _ _ _ h => h) (Or.inl ⟨by kernel_rfl, ?_⟩) s1 ?_
  rotate_left
  · rintro w' ⟨h1, h2, h3, h4, h5, h6, h7, h8⟩; go_simp; (try with_reducible rfl)
  try simp only [Act.put, List.setIfInBounds_toArray, List.set_cons_zero, List.set_cons_succ]
  refine wpAnyL_take (i := 1) (v := .agg #[.bool a, .slice A n c, .bool b, .slice B m d]) rfl (by kernel_rfl) (by kernel_rfl) (by kernel_rfl) (by kernel_rfl) (by kernel_rfl) (fun _ _ _ h => h) (Or.inl ⟨by rfl, by rintro w' ⟨h1, h2, h3, h4, h5, h6, h7, h8⟩; go_simp⟩) s1 ?_
  try simp only [Act.put, List.setIfInBounds_toArray, List.set_cons_zero, List.set_cons_succ]
  refine wpAnyL_take (i := 3) (v := .agg #[.bool a', .slice A' n' c', .bool b', .slice B' m' d']) rfl (by kernel_rfl) (by kernel_rfl) (by kernel_rfl) (by kernel_rfl) (by kernel_rfl) (fun _ _ _ h => h) (Or.inl ⟨by rfl, by rintro w' ⟨h1, h2, h3, h4, h5, h6, h7, h8⟩; go_simp⟩) s1 ?_
  try simp only [Act.put, List.setIfInBounds_toArray, List.set_cons_zero, List.set_cons_succ]
  refine wpAnyL_one (i := 2) (by kernel_rfl) rfl (fun K hK => ?_)
  go_simp
  refine (qplain (K := k) (D1.z 3 rfl) (D1.z 2 rfl) (by omega) (by omega) (by omega) h1 HR.out).mono ?_; rintro e w2 ⟨b_x, A_x, n_x, b_x_, A_x_, n_x_, rfl, z_x, z_x_, hb2⟩
  have R2 := (((D1.below hb2).add z_x).add z_x_)
  have s2 := And.intro (R2.cell 2 0 rfl rfl) (And.intro (R2.cell 2 1 rfl rfl) (And.intro (R2.cell 2 2 rfl rfl) (And.intro (R2.cell 2 3 rfl rfl) (And.intro (R2.cell 1 0 rfl rfl) (And.intro (R2.cell 1 1 rfl rfl) (And.intro (R2.cell 1 2 rfl rfl) (R2.cell 1 3 rfl rfl)))))))
  go_wp2_with fail
  refine hK.out _ _ (fun _ => s2) ?_
  clear hK K
  try simp only [Act.put, List.setIfInBounds_toArray, List.set_cons_zero, List.set_cons_succ]
  refine wpAnyL_one (i := 4) (by kernel_rfl) rfl (fun K hK => ?_)
  go_simp
  refine (qplain (K := k) (R2.z 3 rfl) (R2.z 2 rfl) (by omega) (by omega) (by omega) h1 HS.out).mono ?_; rintro e w3 ⟨b_y, A_y, n_y, b_y_, A_y_, n_y_, rfl, z_y, z_y_, hb3⟩
  have R3 := (((R2.below hb3).add z_y).add z_y_)
  have s3 := And.intro (R3.cell 2 0 rfl rfl) (And.intro (R3.cell 2 1 rfl rfl) (And.intro (R3.cell 2 2 rfl rfl) (And.intro (R3.cell 2 3 rfl rfl) (And.intro (R3.cell 1 0 rfl rfl) (And.intro (R3.cell 1 1 rfl rfl) (And.intro (R3.cell 1 2 rfl rfl) (R3.cell 1 3 rfl rfl)))))))
  go_wp2_with fail
  refine hK.out _ _ (fun _ => s3) ?_
  clear hK K
  try simp only [Act.put, List.setIfInBounds_toArray, List.set_cons_zero, List.set_cons_succ]
  refine wpAnyL_one (i := 5) (by kernel_rfl) rfl (fun K hK => ?_)
  go_simp
  refine (qsub1 (R3.z 3 rfl) (R3.z 2 rfl) (R3.z 1 rfl) (R3.z 0 rfl) (Nat.le_refl _) (Nat.le_refl _) (Nat.le_refl _) (Nat.le_refl _) hk).mono ?_; rintro e w4 ⟨b_p, A_p, n_p, b_q, A_q, n_q, rfl, z_p, z_q, hb4⟩
  have R4 := (((R3.below hb4).add z_p).add z_q)
  have s4 := And.intro (R4.cell 2 0 rfl rfl) (And.intro (R4.cell 2 1 rfl rfl) (And.intro (R4.cell 2 2 rfl rfl) (And.intro (R4.cell 2 3 rfl rfl) (And.intro (R4.cell 1 0 rfl rfl) (And.intro (R4.cell 1 1 rfl rfl) (And.intro (R4.cell 1 2 rfl rfl) (R4.cell 1 3 rfl rfl)))))))
  go_wp2_with fail
  refine hK.out _ _ (fun _ => s4) ?_
  clear hK K
  try simp only [Act.put, List.setIfInBounds_toArray, List.set_cons_zero, List.set_cons_succ]
  have fcr0 := R4.cell 0 0 rfl rfl
  have ffr0 := R4.frozen 0 0 rfl
  have fcr1 := R4.cell 0 1 rfl rfl
  have ffr1 := R4.frozen 0 1 rfl
  have fcr2 := R4.cell 0 2 rfl rfl
  have ffr2 := R4.frozen 0 2 rfl
  have fcr3 := R4.cell 0 3 rfl rfl
  have ffr3 := R4.frozen 0 3 rfl
  refine wpAnyL_one (i := 6) (by kernel_rfl) rfl (fun K hK => ?_)
  go_simp
  refine hK.out _ _ (fun h => absurd (by simp) h) ?_
  clear hK K
  try simp only [Act.put, List.setIfInBounds_toArray, List.set_cons_zero, List.set_cons_succ]
  refine wpAnyL_done (by kernel_rfl) ?_ _
  clear fcr0 ffr0 fcr1 ffr1 fcr2 ffr2 fcr3 ffr3
  have R5 := (R4.st4 0 (.bool b_p) (.slice A_p n_p n_p) (.bool b_q) (.slice A_q n_q n_q) rfl rfl rfl rfl rfl)
  generalize ((((w4.setCell ⟨w.heap.size + 1 + 1, 0, none⟩ (.bool b_p)).setCell ⟨w.heap.size + 1 + 1, 1, none⟩ (.slice A_p n_p n_p)).setCell ⟨w.heap.size + 1 + 1, 2, none⟩ (.bool b_q)).setCell ⟨w.heap.size + 1 + 1, 3, none⟩ (.slice A_q n_q n_q)) = w5 at *
  go_wp2_with fail
  refine bodyPost_ret (results_cell_row rfl _ _ (w.heap.size + 1 + 1) 26 #[.bool b_p, .slice A_p n_p n_p, .bool b_q, .slice A_q n_q n_q] (0, 0) _ rfl (R5.b 0 rfl).is Tryz.underlying26 rfl (by kernel_rfl)) rfl ?_
  exact ⟨_, _, _, _, _, _, rfl, (R5.z 1 rfl), (R5.z 0 rfl), R5.bel⟩
set_option maxRecDepth 100000 in
set_option maxHeartbeats 1600000 in
theorem qsub {w : World} {a b a' b' : Bool} {A B A' B' : Option Addr} {n c m d n' c' m' d' : Nat} {x y x' y' : Int} {i j i' j' : Nat} {p q p' q' : Bool} (ha : ZIs w a A n c x i p) (hb : ZIs w b B m d y j q) (ha' : ZIs w a' A' n' c' x' i' p') (hb' : ZIs w b' B' m' d' y' j' q') {k : Nat} (hi : i ≤ k) (hj : j ≤ k) (hi' : i' ≤ k) (hj' : j' ≤ k) (hk : k ≤ 65536) (h1 : 1 ≤ k) {r s : Rat} (hr : qv x y = r) (hs : qv x' y' = s) : Calls Tryz.prog 28 #[.agg #[.bool a, .slice A n c, .bool b, .slice B m d], .agg #[.bool a', .slice A' n' c', .bool b', .slice B' m' d']] w fun e w' => ∃ b3 A3 n3 b4 A4 n4, e = .returned (.agg #[.bool b3, .slice A3 n3 n3, .bool b4, .slice A4 n4 n4]) ∧ ZIs w' b3 A3 n3 n3 ((r - s).num) (2 * k + 1) true ∧ ZIs w' b4 A4 n4 n4 (((r - s).den : Nat) : Int) (2 * k + 1) true ∧ Below w.heap.size w w' := by
  have R0 := (((((((Env.nil_ w).add ha).add hb).add ha').add hb').alloc 26 #[.bool a, .slice A n c, .bool b, .slice B m d] (g := w.heap.size) rfl rfl).alloc 26 #[.bool a', .slice A' n' c', .bool b', .slice B' m' d'] (g := w.heap.size + 1) (by simp) rfl).alloc 26 #[.bool false, .slice none 0 0, .bool false, .slice none 0 0] (g := w.heap.size + 1 + 1) (by simp) rfl
  have HR := Lib.hid hr
  have HS := Lib.hid hs
  clear hr hs
  go_enter Tryz.func28, Tryz.ntmps28
  have k1a0 := R0.cell 2 0 rfl rfl
  have k1a1 := R0.cell 2 1 rfl rfl
  have k1a2 := R0.cell 2 2 rfl rfl
  have k1a3 := R0.cell 2 3 rfl rfl
  have k1b0 := R0.cell 1 0 rfl rfl
  have k1b1 := R0.cell 1 1 rfl rfl
  have k1b2 := R0.cell 1 2 rfl rfl
  have k1b3 := R0.cell 1 3 rfl rfl
  go_wp2_with fail
  clear k1a0 k1a1 k1a2 k1a3 k1b0 k1b1 k1b2 k1b3
  refine (qsub2 (R0.z 3 rfl) (R0.z 2 rfl) (R0.z 1 rfl) (R0.z 0 rfl) hi hj hi' hj' hk h1 HR.out HS.out).mono ?_; rintro e w1 ⟨b_p, A_p, n_p, b_q, A_q, n_q, rfl, z_p, z_q, hb1⟩
  have R1 := (((R0.below hb1).add z_p).add z_q)
  have zr0 := R1.cell 0 0 rfl rfl
  have zr1 := R1.cell 0 1 rfl rfl
  have zr2 := R1.cell 0 2 rfl rfl
  have zr3 := R1.cell 0 3 rfl rfl
  have zfr0 := R1.frozen 0 0 rfl
  have zfr1 := R1.frozen 0 1 rfl
  have zfr2 := R1.frozen 0 2 rfl
  have zfr3 := R1.frozen 0 3 rfl
  go_wp2_with fail
  have R9_ := R1.st4 0 (.bool b_p) (.slice A_p n_p n_p) (.bool b_q) (.slice A_q n_q n_q) rfl rfl rfl rfl rfl
  refine bodyPost_ret (results_cell_row rfl _ _ (w.heap.size + 1 + 1) 26 #[.bool b_p, .slice A_p n_p n_p, .bool b_q, .slice A_q n_q n_q] (0, 0) _ rfl (R9_.b 0 rfl).is Tryz.underlying26 rfl (by kernel_rfl)) rfl ?_
  exact ⟨_, _, _, _, _, _, rfl, (R9_.z 1 rfl), (R9_.z 0 rfl), R9_.bel⟩
set_option maxRecDepth 100000 in
set_option maxHeartbeats 3200000 in
theorem qmul2 {w : World} {a b a' b' : Bool} {A B A' B' : Option Addr} {n c m d n' c' m' d' : Nat} {x y x' y' : Int} {i j i' j' : Nat} {p q p' q' : Bool} (ha : ZIs w a A n c x i p) (hb : ZIs w b B m d y j q) (ha' : ZIs w a' A' n' c' x' i' p') (hb' : ZIs w b' B' m' d' y' j' q') {k : Nat} (hi : i ≤ k) (hj : j ≤ k) (hi' : i' ≤ k) (hj' : j' ≤ k) (hk : k ≤ 65536) (h1 : 1 ≤ k) {r s : Rat} (hr : qv x y = r) (hs : qv x' y' = s) : Calls Tryz.prog 66 #[.agg #[.bool a, .slice A n c, .bool b, .slice B m d], .agg #[.bool a', .slice A' n' c', .bool b', .slice B' m' d'], .func (.func 78) #[] #[]] w fun e w' => ∃ b3 A3 n3 b4 A4 n4, e = .returned (.agg #[.bool b3, .slice A3 n3 n3, .bool b4, .slice A4 n4 n4]) ∧ ZIs w' b3 A3 n3 n3 ((r * s).num) (2 * k) true ∧ ZIs w' b4 A4 n4 n4 (((r * s).den : Nat) : Int) (2 * k) true ∧ Below w.heap.size w w' := by
  have R0 := (((((((Env.nil_ w).add ha).add hb).add ha').add hb').alloc 26 #[.bool a, .slice A n c, .bool b, .slice B m d] (g := w.heap.size) rfl rfl).alloc 26 #[.bool a', .slice A' n' c', .bool b', .slice B' m' d'] (g := w.heap.size + 1) (by simp) rfl).alloc 26 #[.bool false, .slice none 0 0, .bool false, .slice none 0 0] (g := w.heap.size + 1 + 1) (by simp) rfl
  have HR := Lib.hid hr
  have HS := Lib.hid hs
  clear hr hs
  go_enter Tryz.func66, Tryz.ntmps66
  go_wp2_with fail
  have D1 := R0.drew
  have s1 := And.intro (D1.cell 2 0 rfl rfl) (And.intro (D1.cell 2 1 rfl rfl) (And.intro (D1.cell 2 2 rfl rfl) (And.intro (D1.cell 2 3 rfl rfl) (And.intro (D1.cell 1 0 rfl rfl) (And.intro (D1.cell 1 1 rfl rfl) (And.intro (D1.cell 1 2 rfl rfl) (D1.cell 1 3 rfl rfl)))))))
  refine wp_region_late [6] (fun w' => w'.cell? ⟨w.heap.size, 0, none⟩ = some (.bool a) ∧ w'.cell? ⟨w.heap.size, 1, none⟩ = some (.slice A n c) ∧ w'.cell? ⟨w.heap.size, 2, none⟩ = some (.bool b) ∧ w'.cell? ⟨w.heap.size, 3, none⟩ = some (.slice B m d) ∧ w'.cell? ⟨w.heap.size + 1, 0, none⟩ = some (.bool a') ∧ w'.cell? ⟨w.heap.size + 1, 1, none⟩ = some (.slice A' n' c') ∧ w'.cell? ⟨w.heap.size + 1, 2, none⟩ = some (.bool b') ∧ w'.cell? ⟨w.heap.size + 1, 3, none⟩ = some (.slice B' m' d')) (by kernel_rfl) ?_
  refine wpAnyL_take (i := 0) (v := ?_) rfl (by kernel_rfl) (by kernel_rfl) (by kernel_rfl) (by kernel_rfl) (by kernel_rfl) (fun _ _ _ h => h) (Or.inl ⟨by kernel_rfl, ?_⟩) s1 ?_
  rotate_left
  · rintro w' ⟨h1, h2, h3, h4, h5, h6, h7, h8⟩; go_simp; (try with_reducible rfl)
  try simp only [Act.put, List.setIfInBounds_toArray, List.set_cons_zero, List.set_cons_succ]
  refine wpAnyL_take (i := 1) (v := .agg #[.bool a, .slice A n c, .bool b, .slice B m d]) rfl (by kernel_rfl) (by kernel_rfl) (by kernel_rfl) (by kernel_rfl) (by kernel_rfl) (fun _ _ _ h => h) (Or.inl ⟨by rfl, by rintro w' ⟨h1, h2, h3, h4, h5, h6, h7, h8⟩; go_simp⟩) s1 ?_
  try simp only [Act.put, List.setIfInBounds_toArray, List.set_cons_zero, List.set_cons_succ]
  refine wpAnyL_take (i := 3) (v := .agg #[.bool a', .slice A' n' c', .bool b', .slice B' m' d']) rfl (by kernel_rfl) (by kernel_rfl) (by kernel_rfl) (by kernel_rfl) (by kernel_rfl) (fun _ _ _ h => h) (Or.inl ⟨by rfl, by rintro w' ⟨h1, h2, h3, h4, h5, h6, h7, h8⟩; go_simp⟩) s1 ?_
  try simp only [Act.put, List.setIfInBounds_toArray, List.set_cons_zero, List.set_cons_succ]
  refine wpAnyL_one (i := 2) (by kernel_rfl) rfl (fun K hK => ?_)
  go_simp
  refine (qplain (K := k) (D1.z 3 rfl) (D1.z 2 rfl) (by omega) (by omega) (by omega) h1 HR.out).mono ?_; rintro e w2 ⟨b_x, A_x, n_x, b_x_, A_x_, n_x_, rfl, z_x, z_x_, hb2⟩
  have R2 := (((D1.below hb2).add z_x).add z_x_)
  have s2 := And.intro (R2.cell 2 0 rfl rfl) (And.intro (R2.cell 2 1 rfl rfl) (And.intro (R2.cell 2 2 rfl rfl) (And.intro (R2.cell 2 3 rfl rfl) (And.intro (R2.cell 1 0 rfl rfl) (And.intro (R2.cell 1 1 rfl rfl) (And.intro (R2.cell 1 2 rfl rfl) (R2.cell 1 3 rfl rfl)))))))
  go_wp2_with fail
  refine hK.out _ _ (fun _ => s2) ?_
  clear hK K
  try simp only [Act.put, List.setIfInBounds_toArray, List.set_cons_zero, List.set_cons_succ]
  refine wpAnyL_one (i := 4) (by kernel_rfl) rfl (fun K hK => ?_)
  go_simp
  refine (qplain (K := k) (R2.z 3 rfl) (R2.z 2 rfl) (by omega) (by omega) (by omega) h1 HS.out).mono ?_; rintro e w3 ⟨b_y, A_y, n_y, b_y_, A_y_, n_y_, rfl, z_y, z_y_, hb3⟩
  have R3 := (((R2.below hb3).add z_y).add z_y_)
  have s3 := And.intro (R3.cell 2 0 rfl rfl) (And.intro (R3.cell 2 1 rfl rfl) (And.intro (R3.cell 2 2 rfl rfl) (And.intro (R3.cell 2 3 rfl rfl) (And.intro (R3.cell 1 0 rfl rfl) (And.intro (R3.cell 1 1 rfl rfl) (And.intro (R3.cell 1 2 rfl rfl) (R3.cell 1 3 rfl rfl)))))))
  go_wp2_with fail
  refine hK.out _ _ (fun _ => s3) ?_
  clear hK K
  try simp only [Act.put, List.setIfInBounds_toArray, List.set_cons_zero, List.set_cons_succ]
  refine wpAnyL_one (i := 5) (by kernel_rfl) rfl (fun K hK => ?_)
  go_simp
  refine (qmul1 (R3.z 3 rfl) (R3.z 2 rfl) (R3.z 1 rfl) (R3.z 0 rfl) (Nat.le_refl _) (Nat.le_refl _) (Nat.le_refl _) (Nat.le_refl _) hk).mono ?_; rintro e w4 ⟨b_p, A_p, n_p, b_q, A_q, n_q, rfl, z_p, z_q, hb4⟩
  have R4 := (((R3.below hb4).add z_p).add z_q)
  have s4 := And.intro (R4.cell 2 0 rfl rfl) (And.intro (R4.cell 2 1 rfl rfl) (And.intro (R4.cell 2 2 rfl rfl) (And.intro (R4.cell 2 3 rfl rfl) (And.intro (R4.cell 1 0 rfl rfl) (And.intro (R4.cell 1 1 rfl rfl) (And.intro (R4.cell 1 2 rfl rfl) (R4.cell 1 3 rfl rfl)))))))
  go_wp2_with fail
  refine hK.out _ _ (fun _ => s4) ?_
  clear hK K
  try simp only [Act.put, List.setIfInBounds_toArray, List.set_cons_zero, List.set_cons_succ]
  have fcr0 := R4.cell 0 0 rfl rfl
  have ffr0 := R4.frozen 0 0 rfl
  have fcr1 := R4.cell 0 1 rfl rfl
  have ffr1 := R4.frozen 0 1 rfl
  have fcr2 := R4.cell 0 2 rfl rfl
  have ffr2 := R4.frozen 0 2 rfl
  have fcr3 := R4.cell 0 3 rfl rfl
  have ffr3 := R4.frozen 0 3 rfl
  refine wpAnyL_one (i := 6) (by kernel_rfl) rfl (fun K hK => ?_)
  go_simp
  refine hK.out _ _ (fun h => absurd (by simp) h) ?_
  clear hK K
  try simp only [Act.put, List.setIfInBounds_toArray, List.set_cons_zero, List.set_cons_succ]
  refine wpAnyL_done (by kernel_rfl) ?_ _
  clear fcr0 ffr0 fcr1 ffr1 fcr2 ffr2 fcr3 ffr3
  have R5 := (R4.st4 0 (.bool b_p) (.slice A_p n_p n_p) (.bool b_q) (.slice A_q n_q n_q) rfl rfl rfl rfl rfl)
  generalize ((((w4.setCell ⟨w.heap.size + 1 + 1, 0, none⟩ (.bool b_p)).setCell ⟨w.heap.size + 1 + 1, 1, none⟩ (.slice A_p n_p n_p)).setCell ⟨w.heap.size + 1 + 1, 2, none⟩ (.bool b_q)).setCell ⟨w.heap.size + 1 + 1, 3, none⟩ (.slice A_q n_q n_q)) = w5 at *
  go_wp2_with fail
  refine bodyPost_ret (results_cell_row rfl _ _ (w.heap.size + 1 + 1) 26 #[.bool b_p, .slice A_p n_p n_p, .bool b_q, .slice A_q n_q n_q] (0, 0) _ rfl (R5.b 0 rfl).is Tryz.underlying26 rfl (by kernel_rfl)) rfl ?_
  exact ⟨_, _, _, _, _, _, rfl, (R5.z 1 rfl), (R5.z 0 rfl), R5.bel⟩
set_option maxRecDepth 100000 in
set_option maxHeartbeats 1600000 in
theorem qmul {w : World} {a b a' b' : Bool} {A B A' B' : Option Addr} {n c m d n' c' m' d' : Nat} {x y x' y' : Int} {i j i' j' : Nat} {p q p' q' : Bool} (ha : ZIs w a A n c x i p) (hb : ZIs w b B m d y j q) (ha' : ZIs w a' A' n' c' x' i' p') (hb' : ZIs w b' B' m' d' y' j' q') {k : Nat} (hi : i ≤ k) (hj : j ≤ k) (hi' : i' ≤ k) (hj' : j' ≤ k) (hk : k ≤ 65536) (h1 : 1 ≤ k) {r s : Rat} (hr : qv x y = r) (hs : qv x' y' = s) : Calls Tryz.prog 39 #[.agg #[.bool a, .slice A n c, .bool b, .slice B m d], .agg #[.bool a', .slice A' n' c', .bool b', .slice B' m' d']] w fun e w' => ∃ b3 A3 n3 b4 A4 n4, e = .returned (.agg #[.bool b3, .slice A3 n3 n3, .bool b4, .slice A4 n4 n4]) ∧ ZIs w' b3 A3 n3 n3 ((r * s).num) (2 * k) true ∧ ZIs w' b4 A4 n4 n4 (((r * s).den : Nat) : Int) (2 * k) true ∧ Below w.heap.size w w' := by
  have R0 := (((((((Env.nil_ w).add ha).add hb).add ha').add hb').alloc 26 #[.bool a, .slice A n c, .bool b, .slice B m d] (g := w.heap.size) rfl rfl).alloc 26 #[.bool a', .slice A' n' c', .bool b', .slice B' m' d'] (g := w.heap.size + 1) (by simp) rfl).alloc 26 #[.bool false, .slice none 0 0, .bool false, .slice none 0 0] (g := w.heap.size + 1 + 1) (by simp) rfl
  have HR := Lib.hid hr
  have HS := Lib.hid hs
  clear hr hs
  go_enter Tryz.func39, Tryz.ntmps39
  have k1a0 := R0.cell 2 0 rfl rfl
  have k1a1 := R0.cell 2 1 rfl rfl
  have k1a2 := R0.cell 2 2 rfl rfl
  have k1a3 := R0.cell 2 3 rfl rfl
  have k1b0 := R0.cell 1 0 rfl rfl
  have k1b1 := R0.cell 1 1 rfl rfl
  have k1b2 := R0.cell 1 2 rfl rfl
  have k1b3 := R0.cell 1 3 rfl rfl
  go_wp2_with fail
  clear k1a0 k1a1 k1a2 k1a3 k1b0 k1b1 k1b2 k1b3
  refine (qmul2 (R0.z 3 rfl) (R0.z 2 rfl) (R0.z 1 rfl) (R0.z 0 rfl) hi hj hi' hj' hk h1 HR.out HS.out).mono ?_; rintro e w1 ⟨b_p, A_p, n_p, b_q, A_q, n_q, rfl, z_p, z_q, hb1⟩
  have R1 := (((R0.below hb1).add z_p).add z_q)
  have zr0 := R1.cell 0 0 rfl rfl
  have zr1 := R1.cell 0 1 rfl rfl
  have zr2 := R1.cell 0 2 rfl rfl
  have zr3 := R1.cell 0 3 rfl rfl
  have zfr0 := R1.frozen 0 0 rfl
  have zfr1 := R1.frozen 0 1 rfl
  have zfr2 := R1.frozen 0 2 rfl
  have zfr3 := R1.frozen 0 3 rfl
  go_wp2_with fail
  have R9_ := R1.st4 0 (.bool b_p) (.slice A_p n_p n_p) (.bool b_q) (.slice A_q n_q n_q) rfl rfl rfl rfl rfl
  refine bodyPost_ret (results_cell_row rfl _ _ (w.heap.size + 1 + 1) 26 #[.bool b_p, .slice A_p n_p n_p, .bool b_q, .slice A_q n_q n_q] (0, 0) _ rfl (R9_.b 0 rfl).is Tryz.underlying26 rfl (by kernel_rfl)) rfl ?_
  exact ⟨_, _, _, _, _, _, rfl, (R9_.z 1 rfl), (R9_.z 0 rfl), R9_.bel⟩
end Go.Proofs.YticjhlbmdjijnaaGreatDoor
