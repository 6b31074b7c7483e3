/- The contracts of heijunkaref03: Add, Sub, Mul, Div. No condition but the reach of a slice. -/
import Derived.Test.YticjhlbmdjijnaaGreatDoorHQS
namespace Go.Proofs.YticjhlbmdjijnaaGreatDoor
set_option linter.unusedSimpArgs false
set_option linter.unusedVariables false
open Go.RowKit

set_option maxRecDepth 100000 in
set_option maxHeartbeats 1600000 in
theorem rqadd {w : World} {a b a' b' : Bool} {A B A' B' : Option Addr} {n c m d n' c' m' d' : Nat} {x y x' y' : Int} {i j i' j' : Nat} {p q p' q' : Bool} (ha : ZIs w a A n c x i p) (hb : ZIs w b B m d y j q) (ha' : ZIs w a' A' n' c' x' i' p') (hb' : ZIs w b' B' m' d' y' j' q') {k : Nat} (hi : i ≤ k) (hj : j ≤ k) (hi' : i' ≤ k) (hj' : j' ≤ k) (hk : k ≤ 4096) (h1 : 1 ≤ k) {r s : Rat} (hr : qv x y = r) (hs : qv x' y' = s) : Calls Tryz.prog 37 #[.agg #[.bool a, .slice A n c, .bool b, .slice B m d], .agg #[.bool a', .slice A' n' c', .bool b', .slice B' m' d']] w fun e w' => ∃ b3 A3 n3 c3 b4 A4 n4 c4, e = .returned (.agg #[.bool b3, .slice A3 n3 c3, .bool b4, .slice A4 n4 c4]) ∧ ZIs w' b3 A3 n3 c3 ((r + s).num) (2 * k + 1) true ∧ ZIs w' b4 A4 n4 c4 (((r + s).den : Nat) : Int) (2 * k + 1) true ∧ Below w.heap.size w w' := by
  have R0 := (((((((Env.nil_ w).add ha).add hb).add ha').add hb').alloc 26 #[.bool a, .slice A n c, .bool b, .slice B m d] (g := w.heap.size) rfl rfl).alloc 26 #[.bool a', .slice A' n' c', .bool b', .slice B' m' d'] (g := w.heap.size + 1) (by simp) rfl).alloc 26 #[.bool false, .slice none 0 0, .bool false, .slice none 0 0] (g := w.heap.size + 1 + 1) (by simp) rfl
  have HR := Lib.hid hr
  have HS := Lib.hid hs
  clear hr hs
  have HV := Lib.hid ((qv_pos (qdd_pos r s)).trans (qadd_of r s))
  go_enter Tryz.func37, Tryz.ntmps37
  have k1a0 := R0.cell 2 0 rfl rfl
  have k1a1 := R0.cell 2 1 rfl rfl
  have k1a2 := R0.cell 2 2 rfl rfl
  have k1a3 := R0.cell 2 3 rfl rfl
  have k1b0 := R0.cell 1 0 rfl rfl
  have k1b1 := R0.cell 1 1 rfl rfl
  have k1b2 := R0.cell 1 2 rfl rfl
  have k1b3 := R0.cell 1 3 rfl rfl
  go_wp2_with fail
  clear k1a0 k1a1 k1a2 k1a3 k1b0 k1b1 k1b2 k1b3
  refine (rqcross (R0.z 3 rfl) (R0.z 2 rfl) (R0.z 1 rfl) (R0.z 0 rfl) hi hj hi' hj' hk h1 HR.out HS.out).mono ?_; rintro e w1 ⟨b_p, A_p, n_p, c_p, b_q, A_q, n_q, c_q, b_u, A_u, n_u, c_u, rfl, z_p, z_q, z_u, hb1⟩
  have R1 := (((((((R0.below hb1).add z_p).add z_q).add z_u).alloc 24 #[.bool b_p, .slice A_p n_p c_p] (g := w1.heap.size) rfl rfl).alloc 24 #[.bool b_q, .slice A_q n_q c_q] (g := w1.heap.size + 1) (by simp) rfl).alloc 24 #[.bool b_u, .slice A_u n_u c_u] (g := w1.heap.size + 1 + 1) (by simp) rfl)
  go_wp2_with fail
  have D2 := R1.drew
  have s2 := And.intro (D2.cell 2 0 rfl rfl) (And.intro (D2.cell 2 1 rfl rfl) (And.intro (D2.cell 1 0 rfl rfl) (And.intro (D2.cell 1 1 rfl rfl) (And.intro (D2.cell 0 0 rfl rfl) (D2.cell 0 1 rfl rfl)))))
  refine wp_region_late [6] (fun w' => w'.cell? ⟨w1.heap.size, 0, none⟩ = some (.bool b_p) ∧ w'.cell? ⟨w1.heap.size, 1, none⟩ = some (.slice A_p n_p c_p) ∧ w'.cell? ⟨w1.heap.size + 1, 0, none⟩ = some (.bool b_q) ∧ w'.cell? ⟨w1.heap.size + 1, 1, none⟩ = some (.slice A_q n_q c_q) ∧ w'.cell? ⟨w1.heap.size + 1 + 1, 0, none⟩ = some (.bool b_u) ∧ w'.cell? ⟨w1.heap.size + 1 + 1, 1, none⟩ = some (.slice A_u n_u c_u)) (by kernel_rfl) ?_
  refine wpAnyL_take (i := 0) (v := .agg #[.bool b_p, .slice A_p n_p c_p]) rfl (by kernel_rfl) (by kernel_rfl) (by kernel_rfl) (by kernel_rfl) (by kernel_rfl) (fun _ _ _ h => h) (Or.inl ⟨by rfl, by rintro w' ⟨h1, h2, h3, h4, h5, h6⟩; go_simp⟩) s2 ?_
  try simp only [Act.put, List.setIfInBounds_toArray, List.set_cons_zero, List.set_cons_succ]
  refine wpAnyL_take (i := 1) (v := .agg #[.bool b_q, .slice A_q n_q c_q]) rfl (by kernel_rfl) (by kernel_rfl) (by kernel_rfl) (by kernel_rfl) (by kernel_rfl) (fun _ _ _ h => h) (Or.inl ⟨by rfl, by rintro w' ⟨h1, h2, h3, h4, h5, h6⟩; go_simp⟩) s2 ?_
  try simp only [Act.put, List.setIfInBounds_toArray, List.set_cons_zero, List.set_cons_succ]
  refine wpAnyL_take (i := 3) (v := .agg #[.bool b_u, .slice A_u n_u c_u]) rfl (by kernel_rfl) (by kernel_rfl) (by kernel_rfl) (by kernel_rfl) (by kernel_rfl) (fun _ _ _ h => h) (Or.inl ⟨by rfl, by rintro w' ⟨h1, h2, h3, h4, h5, h6⟩; go_simp⟩) s2 ?_
  try simp only [Act.put, List.setIfInBounds_toArray, List.set_cons_zero, List.set_cons_succ]
  refine wpAnyL_one (i := 2) (by kernel_rfl) rfl (fun K hK => ?_)
  go_simp
  refine (radd_t (K := 2 * k + 1) (D2.z 2 rfl) (D2.z 1 rfl) (by omega) (by omega) (by omega)).mono ?_; rintro e w3 ⟨b_v, A_v, n_v, c_v, rfl, z_v, hb3⟩
  have R3 := ((D2.below hb3).add z_v)
  have s3 := And.intro (R3.cell 2 0 rfl rfl) (And.intro (R3.cell 2 1 rfl rfl) (And.intro (R3.cell 1 0 rfl rfl) (And.intro (R3.cell 1 1 rfl rfl) (And.intro (R3.cell 0 0 rfl rfl) (R3.cell 0 1 rfl rfl)))))
  go_wp2_with fail
  refine hK.out _ _ (fun _ => s3) ?_
  clear hK K
  try simp only [Act.put, List.setIfInBounds_toArray, List.set_cons_zero, List.set_cons_succ]
  refine wpAnyL_one (i := 4) (by kernel_rfl) rfl (fun K hK => ?_)
  go_simp
  refine hK.out _ _ (fun _ => s3) ?_
  clear hK K
  try simp only [Act.put, List.setIfInBounds_toArray, List.set_cons_zero, List.set_cons_succ]
  refine wpAnyL_one (i := 5) (by kernel_rfl) rfl (fun K hK => ?_)
  go_simp
  refine (rqplain (K := 2 * k + 1) (R3.z 0 rfl) (R3.z 1 rfl) (by omega) (by omega) (by omega) (by omega) HV.out).mono ?_; rintro e w4 ⟨b_s, A_s, n_s, c_s, b_t, A_t, n_t, c_t, rfl, z_s, z_t, hb4⟩
  have R4 := (((R3.below hb4).add z_s).add z_t)
  have s4 := And.intro (R4.cell 2 0 rfl rfl) (And.intro (R4.cell 2 1 rfl rfl) (And.intro (R4.cell 1 0 rfl rfl) (And.intro (R4.cell 1 1 rfl rfl) (And.intro (R4.cell 0 0 rfl rfl) (R4.cell 0 1 rfl rfl)))))
  go_wp2_with fail
  refine hK.out _ _ (fun _ => s4) ?_
  clear hK K
  try simp only [Act.put, List.setIfInBounds_toArray, List.set_cons_zero, List.set_cons_succ]
  have fcr0 := R4.cell 3 0 rfl rfl
  have ffr0 := R4.frozen 3 0 rfl
  have fcr1 := R4.cell 3 1 rfl rfl
  have ffr1 := R4.frozen 3 1 rfl
  have fcr2 := R4.cell 3 2 rfl rfl
  have ffr2 := R4.frozen 3 2 rfl
  have fcr3 := R4.cell 3 3 rfl rfl
  have ffr3 := R4.frozen 3 3 rfl
  refine wpAnyL_one (i := 6) (by kernel_rfl) rfl (fun K hK => ?_)
  go_simp
  refine hK.out _ _ (fun h => absurd (by simp) h) ?_
  clear hK K
  try simp only [Act.put, List.setIfInBounds_toArray, List.set_cons_zero, List.set_cons_succ]
  refine wpAnyL_done (by kernel_rfl) ?_ _
  clear fcr0 ffr0 fcr1 ffr1 fcr2 ffr2 fcr3 ffr3
  have R5 := (R4.st4 3 (.bool b_s) (.slice A_s n_s c_s) (.bool b_t) (.slice A_t n_t c_t) rfl rfl rfl rfl rfl)
  generalize ((((w4.setCell ⟨w.heap.size + 1 + 1, 0, none⟩ (.bool b_s)).setCell ⟨w.heap.size + 1 + 1, 1, none⟩ (.slice A_s n_s c_s)).setCell ⟨w.heap.size + 1 + 1, 2, none⟩ (.bool b_t)).setCell ⟨w.heap.size + 1 + 1, 3, none⟩ (.slice A_t n_t c_t)) = w5 at *
  go_wp2_with fail
  refine bodyPost_ret (results_cell_row rfl _ _ (w.heap.size + 1 + 1) 26 #[.bool b_s, .slice A_s n_s c_s, .bool b_t, .slice A_t n_t c_t] (0, 0) _ rfl (R5.b 3 rfl).is Tryz.underlying26 rfl (by kernel_rfl)) rfl ?_
  exact ⟨_, _, _, _, _, _, _, _, rfl, (R5.z 1 rfl), (R5.z 0 rfl), R5.bel⟩
set_option maxRecDepth 100000 in
set_option maxHeartbeats 1600000 in
theorem rqsub {w : World} {a b a' b' : Bool} {A B A' B' : Option Addr} {n c m d n' c' m' d' : Nat} {x y x' y' : Int} {i j i' j' : Nat} {p q p' q' : Bool} (ha : ZIs w a A n c x i p) (hb : ZIs w b B m d y j q) (ha' : ZIs w a' A' n' c' x' i' p') (hb' : ZIs w b' B' m' d' y' j' q') {k : Nat} (hi : i ≤ k) (hj : j ≤ k) (hi' : i' ≤ k) (hj' : j' ≤ k) (hk : k ≤ 4096) (h1 : 1 ≤ k) {r s : Rat} (hr : qv x y = r) (hs : qv x' y' = s) : Calls Tryz.prog 38 #[.agg #[.bool a, .slice A n c, .bool b, .slice B m d], .agg #[.bool a', .slice A' n' c', .bool b', .slice B' m' d']] w fun e w' => ∃ b3 A3 n3 c3 b4 A4 n4 c4, e = .returned (.agg #[.bool b3, .slice A3 n3 c3, .bool b4, .slice A4 n4 c4]) ∧ ZIs w' b3 A3 n3 c3 ((r - s).num) (2 * k + 1) true ∧ ZIs w' b4 A4 n4 c4 (((r - s).den : Nat) : Int) (2 * k + 1) true ∧ Below w.heap.size w w' := by
  have R0 := (((((((Env.nil_ w).add ha).add hb).add ha').add hb').alloc 26 #[.bool a, .slice A n c, .bool b, .slice B m d] (g := w.heap.size) rfl rfl).alloc 26 #[.bool a', .slice A' n' c', .bool b', .slice B' m' d'] (g := w.heap.size + 1) (by simp) rfl).alloc 26 #[.bool false, .slice none 0 0, .bool false, .slice none 0 0] (g := w.heap.size + 1 + 1) (by simp) rfl
  have HR := Lib.hid hr
  have HS := Lib.hid hs
  clear hr hs
  have HV := Lib.hid ((qv_pos (qdd_pos r s)).trans (qsub_of r s))
  go_enter Tryz.func38, Tryz.ntmps38
  have k1a0 := R0.cell 2 0 rfl rfl
  have k1a1 := R0.cell 2 1 rfl rfl
  have k1a2 := R0.cell 2 2 rfl rfl
  have k1a3 := R0.cell 2 3 rfl rfl
  have k1b0 := R0.cell 1 0 rfl rfl
  have k1b1 := R0.cell 1 1 rfl rfl
  have k1b2 := R0.cell 1 2 rfl rfl
  have k1b3 := R0.cell 1 3 rfl rfl
  go_wp2_with fail
  clear k1a0 k1a1 k1a2 k1a3 k1b0 k1b1 k1b2 k1b3
  refine (rqcross (R0.z 3 rfl) (R0.z 2 rfl) (R0.z 1 rfl) (R0.z 0 rfl) hi hj hi' hj' hk h1 HR.out HS.out).mono ?_; rintro e w1 ⟨b_p, A_p, n_p, c_p, b_q, A_q, n_q, c_q, b_u, A_u, n_u, c_u, rfl, z_p, z_q, z_u, hb1⟩
  have R1 := (((((((R0.below hb1).add z_p).add z_q).add z_u).alloc 24 #[.bool b_p, .slice A_p n_p c_p] (g := w1.heap.size) rfl rfl).alloc 24 #[.bool b_q, .slice A_q n_q c_q] (g := w1.heap.size + 1) (by simp) rfl).alloc 24 #[.bool b_u, .slice A_u n_u c_u] (g := w1.heap.size + 1 + 1) (by simp) rfl)
  go_wp2_with fail
  have D2 := R1.drew
  have s2 := And.intro (D2.cell 2 0 rfl rfl) (And.intro (D2.cell 2 1 rfl rfl) (And.intro (D2.cell 1 0 rfl rfl) (And.intro (D2.cell 1 1 rfl rfl) (And.intro (D2.cell 0 0 rfl rfl) (D2.cell 0 1 rfl rfl)))))
  refine wp_region_late [6] (fun w' => w'.cell? ⟨w1.heap.size, 0, none⟩ = some (.bool b_p) ∧ w'.cell? ⟨w1.heap.size, 1, none⟩ = some (.slice A_p n_p c_p) ∧ w'.cell? ⟨w1.heap.size + 1, 0, none⟩ = some (.bool b_q) ∧ w'.cell? ⟨w1.heap.size + 1, 1, none⟩ = some (.slice A_q n_q c_q) ∧ w'.cell? ⟨w1.heap.size + 1 + 1, 0, none⟩ = some (.bool b_u) ∧ w'.cell? ⟨w1.heap.size + 1 + 1, 1, none⟩ = some (.slice A_u n_u c_u)) (by kernel_rfl) ?_
  refine wpAnyL_take (i := 0) (v := .agg #[.bool b_p, .slice A_p n_p c_p]) rfl (by kernel_rfl) (by kernel_rfl) (by kernel_rfl) (by kernel_rfl) (by kernel_rfl) (fun _ _ _ h => h) (Or.inl ⟨by rfl, by rintro w' ⟨h1, h2, h3, h4, h5, h6⟩; go_simp⟩) s2 ?_
  try simp only [Act.put, List.setIfInBounds_toArray, List.set_cons_zero, List.set_cons_succ]
  refine wpAnyL_take (i := 1) (v := .agg #[.bool b_q, .slice A_q n_q c_q]) rfl (by kernel_rfl) (by kernel_rfl) (by kernel_rfl) (by kernel_rfl) (by kernel_rfl) (fun _ _ _ h => h) (Or.inl ⟨by rfl, by rintro w' ⟨h1, h2, h3, h4, h5, h6⟩; go_simp⟩) s2 ?_
  try simp only [Act.put, List.setIfInBounds_toArray, List.set_cons_zero, List.set_cons_succ]
  refine wpAnyL_take (i := 3) (v := .agg #[.bool b_u, .slice A_u n_u c_u]) rfl (by kernel_rfl) (by kernel_rfl) (by kernel_rfl) (by kernel_rfl) (by kernel_rfl) (fun _ _ _ h => h) (Or.inl ⟨by rfl, by rintro w' ⟨h1, h2, h3, h4, h5, h6⟩; go_simp⟩) s2 ?_
  try simp only [Act.put, List.setIfInBounds_toArray, List.set_cons_zero, List.set_cons_succ]
  refine wpAnyL_one (i := 2) (by kernel_rfl) rfl (fun K hK => ?_)
  go_simp
  refine (rsub_t (K := 2 * k + 1) (D2.z 2 rfl) (D2.z 1 rfl) (by omega) (by omega) (by omega)).mono ?_; rintro e w3 ⟨b_v, A_v, n_v, c_v, rfl, z_v, hb3⟩
  have R3 := ((D2.below hb3).add z_v)
  have s3 := And.intro (R3.cell 2 0 rfl rfl) (And.intro (R3.cell 2 1 rfl rfl) (And.intro (R3.cell 1 0 rfl rfl) (And.intro (R3.cell 1 1 rfl rfl) (And.intro (R3.cell 0 0 rfl rfl) (R3.cell 0 1 rfl rfl)))))
  go_wp2_with fail
  refine hK.out _ _ (fun _ => s3) ?_
  clear hK K
  try simp only [Act.put, List.setIfInBounds_toArray, List.set_cons_zero, List.set_cons_succ]
  refine wpAnyL_one (i := 4) (by kernel_rfl) rfl (fun K hK => ?_)
  go_simp
  refine hK.out _ _ (fun _ => s3) ?_
  clear hK K
  try simp only [Act.put, List.setIfInBounds_toArray, List.set_cons_zero, List.set_cons_succ]
  refine wpAnyL_one (i := 5) (by kernel_rfl) rfl (fun K hK => ?_)
  go_simp
  refine (rqplain (K := 2 * k + 1) (R3.z 0 rfl) (R3.z 1 rfl) (by omega) (by omega) (by omega) (by omega) HV.out).mono ?_; rintro e w4 ⟨b_s, A_s, n_s, c_s, b_t, A_t, n_t, c_t, rfl, z_s, z_t, hb4⟩
  have R4 := (((R3.below hb4).add z_s).add z_t)
  have s4 := And.intro (R4.cell 2 0 rfl rfl) (And.intro (R4.cell 2 1 rfl rfl) (And.intro (R4.cell 1 0 rfl rfl) (And.intro (R4.cell 1 1 rfl rfl) (And.intro (R4.cell 0 0 rfl rfl) (R4.cell 0 1 rfl rfl)))))
  go_wp2_with fail
  refine hK.out _ _ (fun _ => s4) ?_
  clear hK K
  try simp only [Act.put, List.setIfInBounds_toArray, List.set_cons_zero, List.set_cons_succ]
  have fcr0 := R4.cell 3 0 rfl rfl
  have ffr0 := R4.frozen 3 0 rfl
  have fcr1 := R4.cell 3 1 rfl rfl
  have ffr1 := R4.frozen 3 1 rfl
  have fcr2 := R4.cell 3 2 rfl rfl
  have ffr2 := R4.frozen 3 2 rfl
  have fcr3 := R4.cell 3 3 rfl rfl
  have ffr3 := R4.frozen 3 3 rfl
  refine wpAnyL_one (i := 6) (by kernel_rfl) rfl (fun K hK => ?_)
  go_simp
  refine hK.out _ _ (fun h => absurd (by simp) h) ?_
  clear hK K
  try simp only [Act.put, List.setIfInBounds_toArray, List.set_cons_zero, List.set_cons_succ]
  refine wpAnyL_done (by kernel_rfl) ?_ _
  clear fcr0 ffr0 fcr1 ffr1 fcr2 ffr2 fcr3 ffr3
  have R5 := (R4.st4 3 (.bool b_s) (.slice A_s n_s c_s) (.bool b_t) (.slice A_t n_t c_t) rfl rfl rfl rfl rfl)
  generalize ((((w4.setCell ⟨w.heap.size + 1 + 1, 0, none⟩ (.bool b_s)).setCell ⟨w.heap.size + 1 + 1, 1, none⟩ (.slice A_s n_s c_s)).setCell ⟨w.heap.size + 1 + 1, 2, none⟩ (.bool b_t)).setCell ⟨w.heap.size + 1 + 1, 3, none⟩ (.slice A_t n_t c_t)) = w5 at *
  go_wp2_with fail
  refine bodyPost_ret (results_cell_row rfl _ _ (w.heap.size + 1 + 1) 26 #[.bool b_s, .slice A_s n_s c_s, .bool b_t, .slice A_t n_t c_t] (0, 0) _ rfl (R5.b 3 rfl).is Tryz.underlying26 rfl (by kernel_rfl)) rfl ?_
  exact ⟨_, _, _, _, _, _, _, _, rfl, (R5.z 1 rfl), (R5.z 0 rfl), R5.bel⟩
set_option maxRecDepth 100000 in
set_option maxHeartbeats 3200000 in
theorem rqmul {w : World} {a b a' b' : Bool} {A B A' B' : Option Addr} {n c m d n' c' m' d' : Nat} {x y x' y' : Int} {i j i' j' : Nat} {p q p' q' : Bool} (ha : ZIs w a A n c x i p) (hb : ZIs w b B m d y j q) (ha' : ZIs w a' A' n' c' x' i' p') (hb' : ZIs w b' B' m' d' y' j' q') {k : Nat} (hi : i ≤ k) (hj : j ≤ k) (hi' : i' ≤ k) (hj' : j' ≤ k) (hk : k ≤ 4096) (h1 : 1 ≤ k) {r s : Rat} (hr : qv x y = r) (hs : qv x' y' = s) : Calls Tryz.prog 40 #[.agg #[.bool a, .slice A n c, .bool b, .slice B m d], .agg #[.bool a', .slice A' n' c', .bool b', .slice B' m' d']] w fun e w' => ∃ b3 A3 n3 c3 b4 A4 n4 c4, e = .returned (.agg #[.bool b3, .slice A3 n3 c3, .bool b4, .slice A4 n4 c4]) ∧ ZIs w' b3 A3 n3 c3 ((r * s).num) (2 * k) true ∧ ZIs w' b4 A4 n4 c4 (((r * s).den : Nat) : Int) (2 * k) true ∧ Below w.heap.size w w' := by
  have R0 := (((((((Env.nil_ w).add ha).add hb).add ha').add hb').alloc 26 #[.bool a, .slice A n c, .bool b, .slice B m d] (g := w.heap.size) rfl rfl).alloc 26 #[.bool a', .slice A' n' c', .bool b', .slice B' m' d'] (g := w.heap.size + 1) (by simp) rfl).alloc 26 #[.bool false, .slice none 0 0, .bool false, .slice none 0 0] (g := w.heap.size + 1 + 1) (by simp) rfl
  have HR := Lib.hid hr
  have HS := Lib.hid hs
  clear hr hs
  have HV := Lib.hid ((qv_pos (qdd_pos r s)).trans (qmul_of r s))
  go_enter Tryz.func40, Tryz.ntmps40
  have k1a0 := R0.cell 2 0 rfl rfl
  have k1a1 := R0.cell 2 1 rfl rfl
  have k1a2 := R0.cell 2 2 rfl rfl
  have k1a3 := R0.cell 2 3 rfl rfl
  go_wp2_with fail
  clear k1a0 k1a1 k1a2 k1a3
  refine (rqplain (K := k) (R0.z 3 rfl) (R0.z 2 rfl) (by omega) (by omega) (by omega) h1 HR.out).mono ?_; rintro e w1 ⟨b_x, A_x, n_x, c_x, b_x_, A_x_, n_x_, c_x_, rfl, z_x, z_x_, hb1⟩
  have R1 := ((((R0.below hb1).add z_x).add z_x_).alloc 26 #[.bool b_x, .slice A_x n_x c_x, .bool b_x_, .slice A_x_ n_x_ c_x_] (g := w1.heap.size) rfl rfl)
  have k2b0 := R1.cell 2 0 rfl rfl
  have k2b1 := R1.cell 2 1 rfl rfl
  have k2b2 := R1.cell 2 2 rfl rfl
  have k2b3 := R1.cell 2 3 rfl rfl
  go_wp2_with fail
  clear k2b0 k2b1 k2b2 k2b3
  refine (rqplain (K := k) (R1.z 3 rfl) (R1.z 2 rfl) (by omega) (by omega) (by omega) h1 HS.out).mono ?_; rintro e w2 ⟨b_y, A_y, n_y, c_y, b_y_, A_y_, n_y_, c_y_, rfl, z_y, z_y_, hb2⟩
  have R2 := ((((R1.below hb2).add z_y).add z_y_).alloc 26 #[.bool b_y, .slice A_y n_y c_y, .bool b_y_, .slice A_y_ n_y_ c_y_] (g := w2.heap.size) rfl rfl)
  go_wp2_with fail
  have D3 := R2.drew
  have s3 := And.intro (D3.cell 1 0 rfl rfl) (And.intro (D3.cell 1 1 rfl rfl) (And.intro (D3.cell 1 2 rfl rfl) (And.intro (D3.cell 1 3 rfl rfl) (And.intro (D3.cell 0 0 rfl rfl) (And.intro (D3.cell 0 1 rfl rfl) (And.intro (D3.cell 0 2 rfl rfl) (D3.cell 0 3 rfl rfl)))))))
  refine wp_region_late [12] (fun w' => w'.cell? ⟨w1.heap.size, 0, none⟩ = some (.bool b_x) ∧ w'.cell? ⟨w1.heap.size, 1, none⟩ = some (.slice A_x n_x c_x) ∧ w'.cell? ⟨w1.heap.size, 2, none⟩ = some (.bool b_x_) ∧ w'.cell? ⟨w1.heap.size, 3, none⟩ = some (.slice A_x_ n_x_ c_x_) ∧ w'.cell? ⟨w2.heap.size, 0, none⟩ = some (.bool b_y) ∧ w'.cell? ⟨w2.heap.size, 1, none⟩ = some (.slice A_y n_y c_y) ∧ w'.cell? ⟨w2.heap.size, 2, none⟩ = some (.bool b_y_) ∧ w'.cell? ⟨w2.heap.size, 3, none⟩ = some (.slice A_y_ n_y_ c_y_)) (by kernel_rfl) ?_
  refine wpAnyL_take (i := 0) (v := ?_) rfl (by kernel_rfl) (by kernel_rfl) (by kernel_rfl) (by kernel_rfl) (by kernel_rfl) (fun _ _ _ h => h) (Or.inl ⟨by kernel_rfl, ?_⟩) s3 ?_
  rotate_left
  · rintro w' ⟨h1, h2, h3, h4, h5, h6, h7, h8⟩; go_simp; (try with_reducible rfl)
  try simp only [Act.put, List.setIfInBounds_toArray, List.set_cons_zero, List.set_cons_succ]
  refine wpAnyL_take (i := 1) (v := .agg #[.bool b_x, .slice A_x n_x c_x]) rfl (by kernel_rfl) (by kernel_rfl) (by kernel_rfl) (by kernel_rfl) (by kernel_rfl) (fun _ _ _ h => h) (Or.inl ⟨by rfl, by rintro w' ⟨h1, h2, h3, h4, h5, h6, h7, h8⟩; go_simp⟩) s3 ?_
  try simp only [Act.put, List.setIfInBounds_toArray, List.set_cons_zero, List.set_cons_succ]
  refine wpAnyL_take (i := 2) (v := ?_) rfl (by kernel_rfl) (by kernel_rfl) (by kernel_rfl) (by kernel_rfl) (by kernel_rfl) (fun _ _ _ h => h) (Or.inl ⟨by kernel_rfl, ?_⟩) s3 ?_
  rotate_left
  · rintro w' ⟨h1, h2, h3, h4, h5, h6, h7, h8⟩; go_simp; (try with_reducible rfl)
  try simp only [Act.put, List.setIfInBounds_toArray, List.set_cons_zero, List.set_cons_succ]
  refine wpAnyL_take (i := 3) (v := .agg #[.bool b_y, .slice A_y n_y c_y]) rfl (by kernel_rfl) (by kernel_rfl) (by kernel_rfl) (by kernel_rfl) (by kernel_rfl) (fun _ _ _ h => h) (Or.inl ⟨by rfl, by rintro w' ⟨h1, h2, h3, h4, h5, h6, h7, h8⟩; go_simp⟩) s3 ?_
  try simp only [Act.put, List.setIfInBounds_toArray, List.set_cons_zero, List.set_cons_succ]
  refine wpAnyL_take (i := 5) (v := ?_) rfl (by kernel_rfl) (by kernel_rfl) (by kernel_rfl) (by kernel_rfl) (by kernel_rfl) (fun _ _ _ h => h) (Or.inl ⟨by kernel_rfl, ?_⟩) s3 ?_
  rotate_left
  · rintro w' ⟨h1, h2, h3, h4, h5, h6, h7, h8⟩; go_simp; (try with_reducible rfl)
  try simp only [Act.put, List.setIfInBounds_toArray, List.set_cons_zero, List.set_cons_succ]
  refine wpAnyL_take (i := 6) (v := .agg #[.bool b_x_, .slice A_x_ n_x_ c_x_]) rfl (by kernel_rfl) (by kernel_rfl) (by kernel_rfl) (by kernel_rfl) (by kernel_rfl) (fun _ _ _ h => h) (Or.inl ⟨by rfl, by rintro w' ⟨h1, h2, h3, h4, h5, h6, h7, h8⟩; go_simp⟩) s3 ?_
  try simp only [Act.put, List.setIfInBounds_toArray, List.set_cons_zero, List.set_cons_succ]
  refine wpAnyL_take (i := 7) (v := ?_) rfl (by kernel_rfl) (by kernel_rfl) (by kernel_rfl) (by kernel_rfl) (by kernel_rfl) (fun _ _ _ h => h) (Or.inl ⟨by kernel_rfl, ?_⟩) s3 ?_
  rotate_left
  · rintro w' ⟨h1, h2, h3, h4, h5, h6, h7, h8⟩; go_simp; (try with_reducible rfl)
  try simp only [Act.put, List.setIfInBounds_toArray, List.set_cons_zero, List.set_cons_succ]
  refine wpAnyL_take (i := 8) (v := .agg #[.bool b_y_, .slice A_y_ n_y_ c_y_]) rfl (by kernel_rfl) (by kernel_rfl) (by kernel_rfl) (by kernel_rfl) (by kernel_rfl) (fun _ _ _ h => h) (Or.inl ⟨by rfl, by rintro w' ⟨h1, h2, h3, h4, h5, h6, h7, h8⟩; go_simp⟩) s3 ?_
  try simp only [Act.put, List.setIfInBounds_toArray, List.set_cons_zero, List.set_cons_succ]
  refine wpAnyL_one (i := 4) (by kernel_rfl) rfl (fun K hK => ?_)
  go_simp
  refine (rmul_t (K := 2 * k) (D3.z 3 rfl) (D3.z 1 rfl) (by omega) (by omega) (by omega)).mono ?_; rintro e w4 ⟨b_p, A_p, n_p, c_p, rfl, z_p, hb4⟩
  have R4 := ((D3.below hb4).add z_p)
  have s4 := And.intro (R4.cell 1 0 rfl rfl) (And.intro (R4.cell 1 1 rfl rfl) (And.intro (R4.cell 1 2 rfl rfl) (And.intro (R4.cell 1 3 rfl rfl) (And.intro (R4.cell 0 0 rfl rfl) (And.intro (R4.cell 0 1 rfl rfl) (And.intro (R4.cell 0 2 rfl rfl) (R4.cell 0 3 rfl rfl)))))))
  go_wp2_with fail
  refine hK.out _ _ (fun _ => s4) ?_
  clear hK K
  try simp only [Act.put, List.setIfInBounds_toArray, List.set_cons_zero, List.set_cons_succ]
  refine wpAnyL_one (i := 9) (by kernel_rfl) rfl (fun K hK => ?_)
  go_simp
  refine (rmul_t (K := 2 * k) (R4.z 3 rfl) (R4.z 1 rfl) (by omega) (by omega) (by omega)).mono ?_; rintro e w5 ⟨b_q, A_q, n_q, c_q, rfl, z_q, hb5⟩
  have R5 := ((R4.below hb5).add z_q)
  have s5 := And.intro (R5.cell 1 0 rfl rfl) (And.intro (R5.cell 1 1 rfl rfl) (And.intro (R5.cell 1 2 rfl rfl) (And.intro (R5.cell 1 3 rfl rfl) (And.intro (R5.cell 0 0 rfl rfl) (And.intro (R5.cell 0 1 rfl rfl) (And.intro (R5.cell 0 2 rfl rfl) (R5.cell 0 3 rfl rfl)))))))
  go_wp2_with fail
  refine hK.out _ _ (fun _ => s5) ?_
  clear hK K
  try simp only [Act.put, List.setIfInBounds_toArray, List.set_cons_zero, List.set_cons_succ]
  refine wpAnyL_one (i := 10) (by kernel_rfl) rfl (fun K hK => ?_)
  go_simp
  refine hK.out _ _ (fun _ => s5) ?_
  clear hK K
  try simp only [Act.put, List.setIfInBounds_toArray, List.set_cons_zero, List.set_cons_succ]
  refine wpAnyL_one (i := 11) (by kernel_rfl) rfl (fun K hK => ?_)
  go_simp
  refine (rqplain (K := 2 * k) (R5.z 1 rfl) (R5.z 0 rfl) (by omega) (by omega) (by omega) (by omega) HV.out).mono ?_; rintro e w6 ⟨b_s, A_s, n_s, c_s, b_t, A_t, n_t, c_t, rfl, z_s, z_t, hb6⟩
  have R6 := (((R5.below hb6).add z_s).add z_t)
  have s6 := And.intro (R6.cell 1 0 rfl rfl) (And.intro (R6.cell 1 1 rfl rfl) (And.intro (R6.cell 1 2 rfl rfl) (And.intro (R6.cell 1 3 rfl rfl) (And.intro (R6.cell 0 0 rfl rfl) (And.intro (R6.cell 0 1 rfl rfl) (And.intro (R6.cell 0 2 rfl rfl) (R6.cell 0 3 rfl rfl)))))))
  go_wp2_with fail
  refine hK.out _ _ (fun _ => s6) ?_
  clear hK K
  try simp only [Act.put, List.setIfInBounds_toArray, List.set_cons_zero, List.set_cons_succ]
  have fcr0 := R6.cell 2 0 rfl rfl
  have ffr0 := R6.frozen 2 0 rfl
  have fcr1 := R6.cell 2 1 rfl rfl
  have ffr1 := R6.frozen 2 1 rfl
  have fcr2 := R6.cell 2 2 rfl rfl
  have ffr2 := R6.frozen 2 2 rfl
  have fcr3 := R6.cell 2 3 rfl rfl
  have ffr3 := R6.frozen 2 3 rfl
  refine wpAnyL_one (i := 12) (by kernel_rfl) rfl (fun K hK => ?_)
  go_simp
  refine hK.out _ _ (fun h => absurd (by simp) h) ?_
  clear hK K
  try simp only [Act.put, List.setIfInBounds_toArray, List.set_cons_zero, List.set_cons_succ]
  refine wpAnyL_done (by kernel_rfl) ?_ _
  clear fcr0 ffr0 fcr1 ffr1 fcr2 ffr2 fcr3 ffr3
  have R7 := (R6.st4 2 (.bool b_s) (.slice A_s n_s c_s) (.bool b_t) (.slice A_t n_t c_t) rfl rfl rfl rfl rfl)
  generalize ((((w6.setCell ⟨w.heap.size + 1 + 1, 0, none⟩ (.bool b_s)).setCell ⟨w.heap.size + 1 + 1, 1, none⟩ (.slice A_s n_s c_s)).setCell ⟨w.heap.size + 1 + 1, 2, none⟩ (.bool b_t)).setCell ⟨w.heap.size + 1 + 1, 3, none⟩ (.slice A_t n_t c_t)) = w7 at *
  go_wp2_with fail
  refine bodyPost_ret (results_cell_row rfl _ _ (w.heap.size + 1 + 1) 26 #[.bool b_s, .slice A_s n_s c_s, .bool b_t, .slice A_t n_t c_t] (0, 0) _ rfl (R7.b 2 rfl).is Tryz.underlying26 rfl (by kernel_rfl)) rfl ?_
  exact ⟨_, _, _, _, _, _, _, _, rfl, (R7.z 1 rfl), (R7.z 0 rfl), R7.bel⟩
set_option maxRecDepth 100000 in
set_option maxHeartbeats 1600000 in
theorem rqdiv_zero {w : World} {a b a' b' : Bool} {A B A' B' : Option Addr} {n c m d n' c' m' d' : Nat} {x y x' y' : Int} {i j i' j' : Nat} {p q p' q' : Bool} (ha : ZIs w a A n c x i p) (hb : ZIs w b B m d y j q) (ha' : ZIs w a' A' n' c' x' i' p') (hb' : ZIs w b' B' m' d' y' j' q') {k : Nat} (hi : i ≤ k) (hj : j ≤ k) (hi' : i' ≤ k) (hj' : j' ≤ k) (hk : k ≤ 4096) (h1 : 1 ≤ k) {r s : Rat} (hr : qv x y = r) (hs : qv x' y' = s) (h0 : s = 0) : Calls Tryz.prog 31 #[.agg #[.bool a, .slice A n c, .bool b, .slice B m d], .agg #[.bool a', .slice A' n' c', .bool b', .slice B' m' d']] w fun e w' => ∃ b3 A3 n3 c3 b4 A4 n4 c4, e = .returned (.tuple #[.agg #[.bool b3, .slice A3 n3 c3, .bool b4, .slice A4 n4 c4], .bool false]) ∧ ZIs w' b3 A3 n3 c3 ((0 : Rat).num) k true ∧ ZIs w' b4 A4 n4 c4 (((0 : Rat).den : Nat) : Int) k true ∧ Below w.heap.size w w' := by
  have R0 := (((((((Env.nil_ w).add ha).add hb).add ha').add hb').alloc 26 #[.bool a, .slice A n c, .bool b, .slice B m d] (g := w.heap.size) rfl rfl).alloc 26 #[.bool a', .slice A' n' c', .bool b', .slice B' m' d'] (g := w.heap.size + 1) (by simp) rfl).alloc 26 #[.bool false, .slice none 0 0, .bool false, .slice none 0 0] (g := w.heap.size + 1 + 1) (by simp) rfl
  have HR := Lib.hid hr
  have HS := Lib.hid hs
  clear hr hs
  have H0 := Lib.hid h0
  clear h0
  go_enter Tryz.func31, Tryz.ntmps31
  have k1b0 := R0.cell 1 0 rfl rfl
  have k1b1 := R0.cell 1 1 rfl rfl
  have k1b2 := R0.cell 1 2 rfl rfl
  have k1b3 := R0.cell 1 3 rfl rfl
  go_wp2_with fail
  clear k1b0 k1b1 k1b2 k1b3
  refine (rqplain (K := k) (R0.z 1 rfl) (R0.z 0 rfl) (by omega) (by omega) (by omega) h1 HS.out).mono ?_; rintro e w1 ⟨b_y, A_y, n_y, c_y, b_y_, A_y_, n_y_, c_y_, rfl, z_y, z_y_, hb1⟩
  have R1 := ((((R0.below hb1).add z_y).add z_y_).alloc 26 #[.bool b_y, .slice A_y n_y c_y, .bool b_y_, .slice A_y_ n_y_ c_y_] (g := w1.heap.size) rfl rfl)
  obtain rfl : n_y = 0 := ((R1.z 1 rfl).zero_iff).2 ((qnum_zero s).2 H0.out)
  have k2y0 := R1.cell 0 0 rfl rfl
  have k2y1 := R1.cell 0 1 rfl rfl
  have k2y2 := R1.cell 0 2 rfl rfl
  have k2y3 := R1.cell 0 3 rfl rfl
  go_wp2_with fail
  clear k2y0 k2y1 k2y2 k2y3
  refine (rqzero _).mono ?_; rintro e w2 ⟨b_p, A_p, n_p, c_p, b_q, A_q, n_q, c_q, rfl, z_p, z_q, hb2⟩
  have R2 := (((R1.below hb2).add z_p).add z_q)
  have zr0 := R2.cell 1 0 rfl rfl
  have zr1 := R2.cell 1 1 rfl rfl
  have zr2 := R2.cell 1 2 rfl rfl
  have zr3 := R2.cell 1 3 rfl rfl
  have zfr0 := R2.frozen 1 0 rfl
  have zfr1 := R2.frozen 1 1 rfl
  have zfr2 := R2.frozen 1 2 rfl
  have zfr3 := R2.frozen 1 3 rfl
  go_wp2_with fail
  have R9_ := R2.st4 1 (.bool b_p) (.slice A_p n_p c_p) (.bool b_q) (.slice A_q n_q c_q) rfl rfl rfl rfl rfl
  refine bodyPost_ret (results_row_tmp rfl _ _ (w.heap.size + 1 + 1) 26 #[.bool b_p, .slice A_p n_p c_p, .bool b_q, .slice A_q n_q c_q] (0, 0) _ rfl (R9_.b 1 rfl).is Tryz.underlying26 rfl (by kernel_rfl)) rfl ?_
  exact ⟨_, _, _, _, _, _, _, _, rfl, (R9_.z 1 rfl).mono (by omega), (R9_.z 0 rfl).mono (by omega), R9_.bel⟩
set_option maxRecDepth 100000 in
set_option maxHeartbeats 1600000 in
theorem rqdiv {w : World} {a b a' b' : Bool} {A B A' B' : Option Addr} {n c m d n' c' m' d' : Nat} {x y x' y' : Int} {i j i' j' : Nat} {p q p' q' : Bool} (ha : ZIs w a A n c x i p) (hb : ZIs w b B m d y j q) (ha' : ZIs w a' A' n' c' x' i' p') (hb' : ZIs w b' B' m' d' y' j' q') {k : Nat} (hi : i ≤ k) (hj : j ≤ k) (hi' : i' ≤ k) (hj' : j' ≤ k) (hk : k ≤ 4096) (h1 : 1 ≤ k) {r s : Rat} (hr : qv x y = r) (hs : qv x' y' = s) (h0 : s ≠ 0) : Calls Tryz.prog 31 #[.agg #[.bool a, .slice A n c, .bool b, .slice B m d], .agg #[.bool a', .slice A' n' c', .bool b', .slice B' m' d']] w fun e w' => ∃ b3 A3 n3 c3 b4 A4 n4 c4, e = .returned (.tuple #[.agg #[.bool b3, .slice A3 n3 c3, .bool b4, .slice A4 n4 c4], .bool true]) ∧ ZIs w' b3 A3 n3 c3 ((r / s).num) (2 * k) true ∧ ZIs w' b4 A4 n4 c4 (((r / s).den : Nat) : Int) (2 * k) true ∧ Below w.heap.size w w' := by
  have R0 := (((((((Env.nil_ w).add ha).add hb).add ha').add hb').alloc 26 #[.bool a, .slice A n c, .bool b, .slice B m d] (g := w.heap.size) rfl rfl).alloc 26 #[.bool a', .slice A' n' c', .bool b', .slice B' m' d'] (g := w.heap.size + 1) (by simp) rfl).alloc 26 #[.bool false, .slice none 0 0, .bool false, .slice none 0 0] (g := w.heap.size + 1 + 1) (by simp) rfl
  have HR := Lib.hid hr
  have HS := Lib.hid hs
  clear hr hs
  have HI := Lib.hid (qv_inv h0)
  have H0 := Lib.hid h0
  clear h0
  go_enter Tryz.func31, Tryz.ntmps31
  have k1b0 := R0.cell 1 0 rfl rfl
  have k1b1 := R0.cell 1 1 rfl rfl
  have k1b2 := R0.cell 1 2 rfl rfl
  have k1b3 := R0.cell 1 3 rfl rfl
  go_wp2_with fail
  clear k1b0 k1b1 k1b2 k1b3
  refine (rqplain (K := k) (R0.z 1 rfl) (R0.z 0 rfl) (by omega) (by omega) (by omega) h1 HS.out).mono ?_; rintro e w1 ⟨b_y, A_y, n_y, c_y, b_y_, A_y_, n_y_, c_y_, rfl, z_y, z_y_, hb1⟩
  have R1 := ((((R0.below hb1).add z_y).add z_y_).alloc 26 #[.bool b_y, .slice A_y n_y c_y, .bool b_y_, .slice A_y_ n_y_ c_y_] (g := w1.heap.size) rfl rfl)
  have hny : n_y ≠ 0 := fun h => H0.out ((qnum_zero s).1 (((R1.z 1 rfl).zero_iff).1 h))
  have hnb : ((n_y : Int) == 0) = false := by simpa using hny
  clear hny
  have HJ := HI.out
  rw [(R1.z 1 rfl).neg_b] at HJ
  have HI2 := Lib.hid HJ
  clear HJ HI
  have Rz := (R1.add ((R1.z 0 rfl).resign b_y)).add ((R1.z 1 rfl).resign false)
  have k2a0 := Rz.cell 3 0 rfl rfl
  have k2a1 := Rz.cell 3 1 rfl rfl
  have k2a2 := Rz.cell 3 2 rfl rfl
  have k2a3 := Rz.cell 3 3 rfl rfl
  have k2y0 := Rz.cell 0 0 rfl rfl
  have k2y1 := Rz.cell 0 1 rfl rfl
  have k2y2 := Rz.cell 0 2 rfl rfl
  have k2y3 := Rz.cell 0 3 rfl rfl
  go_wp2_with fail
  clear k2a0 k2a1 k2a2 k2a3 k2y0 k2y1 k2y2 k2y3
  refine (rqmul (Rz.z 7 rfl) (Rz.z 6 rfl) (Rz.z 1 rfl) (Rz.z 0 rfl) hi hj (by omega) (by omega) hk h1 HR.out HI2.out).mono ?_; rintro e w2 ⟨b_p, A_p, n_p, c_p, b_q, A_q, n_q, c_q, rfl, z_p, z_q, hb2⟩
  have R2 := (((Rz.below hb2).add z_p).add z_q)
  have zr0 := R2.cell 1 0 rfl rfl
  have zr1 := R2.cell 1 1 rfl rfl
  have zr2 := R2.cell 1 2 rfl rfl
  have zr3 := R2.cell 1 3 rfl rfl
  have zfr0 := R2.frozen 1 0 rfl
  have zfr1 := R2.frozen 1 1 rfl
  have zfr2 := R2.frozen 1 2 rfl
  have zfr3 := R2.frozen 1 3 rfl
  go_wp2_with fail
  have R9_ := R2.st4 1 (.bool b_p) (.slice A_p n_p c_p) (.bool b_q) (.slice A_q n_q c_q) rfl rfl rfl rfl rfl
  refine bodyPost_ret (results_row_tmp rfl _ _ (w.heap.size + 1 + 1) 26 #[.bool b_p, .slice A_p n_p c_p, .bool b_q, .slice A_q n_q c_q] (0, 0) _ rfl (R9_.b 1 rfl).is Tryz.underlying26 rfl (by kernel_rfl)) rfl ?_
  rw [Rat.div_def]
  exact ⟨_, _, _, _, _, _, _, _, rfl, (R9_.z 1 rfl), (R9_.z 0 rfl), R9_.bel⟩
end Go.Proofs.YticjhlbmdjijnaaGreatDoor
