/- The contracts of heijunkaref03: Of, Same, cross, Cmp. No condition but the reach of a slice. -/
import Derived.Test.YticjhlbmdjijnaaGreatDoorHQR
import Derived.Test.YticjhlbmdjijnaaGreatDoorHQRMath
namespace Go.Proofs.YticjhlbmdjijnaaGreatDoor
set_option linter.unusedSimpArgs false
set_option linter.unusedVariables false
open Go.RowKit

set_option maxRecDepth 100000 in
set_option maxHeartbeats 1600000 in
theorem rqof (x y : Int) (hx : -9223372036854775808 ≤ x ∧ x ≤ 9223372036854775807) (hy : -9223372036854775808 ≤ y ∧ y ≤ 9223372036854775807) (w : World) {r : Rat} (hr : Rat.divInt x y = r) {ok : Bool} (hok : decide (y ≠ 0) = ok) : Calls Tryz.prog 15 #[.int .i64 x, .int .i64 y] w fun e w' => ∃ b3 A3 n3 c3 b4 A4 n4 c4, e = .returned (.tuple #[.agg #[.bool b3, .slice A3 n3 c3, .bool b4, .slice A4 n4 c4], .bool ok]) ∧ ZIs w' b3 A3 n3 c3 (r.num) 3 true ∧ ZIs w' b4 A4 n4 c4 ((r.den : Nat) : Int) 3 true ∧ Below w.heap.size w w' := by
  have R0 := (Env.nil_ w).alloc 26 #[.bool false, .slice none 0 0, .bool false, .slice none 0 0] (g := w.heap.size) rfl rfl
  have z1 := fun w0 => rzof x w0 hx.1 hx.2
  have z2 := fun w0 => rzof y w0 hy.1 hy.2
  clear hx hy
  have HR := Lib.hid hr
  clear hr
  by_cases h0 : y = 0
  · subst h0
    have hr0 : r = 0 := by rw [← HR.out, Rat.divInt_zero]
    subst hr0
    obtain rfl : false = ok := hok
    go_enter Tryz.func15, Tryz.ntmps15
    go_wp2_with fail
    refine (rqzero _).mono ?_; rintro e w1 ⟨b_p, A_p, n_p, c_p, b_q, A_q, n_q, c_q, rfl, z_p, z_q, hb1⟩
    have R1 := (((R0.below hb1).add z_p).add z_q)
    have zr0 := R1.cell 0 0 rfl rfl
    have zr1 := R1.cell 0 1 rfl rfl
    have zr2 := R1.cell 0 2 rfl rfl
    have zr3 := R1.cell 0 3 rfl rfl
    have zfr0 := R1.frozen 0 0 rfl
    have zfr1 := R1.frozen 0 1 rfl
    have zfr2 := R1.frozen 0 2 rfl
    have zfr3 := R1.frozen 0 3 rfl
    go_wp2_with fail
    have R9_ := R1.st4 0 (.bool b_p) (.slice A_p n_p c_p) (.bool b_q) (.slice A_q n_q c_q) rfl rfl rfl rfl rfl
    refine bodyPost_ret (results_row_tmp rfl _ _ (w.heap.size) 26 #[.bool b_p, .slice A_p n_p c_p, .bool b_q, .slice A_q n_q c_q] (0, 0) _ rfl (R9_.b 0 rfl).is Tryz.underlying26 rfl (by kernel_rfl)) rfl ?_
    exact ⟨_, _, _, _, _, _, _, _, rfl, (R9_.z 1 rfl).mono (by omega), (R9_.z 0 rfl).mono (by omega), R9_.bel⟩
  · obtain rfl : true = ok := by rw [← hok]; exact (decide_eq_true h0).symm
    have hyb : (y == 0) = false := by simpa using h0
    have H0 := Lib.hid (qv_resign (x := x) h0)
    clear h0
    go_enter Tryz.func15, Tryz.ntmps15
    go_wp2_with fail
    refine (z1 _).mono ?_; rintro e w1 ⟨b_x, A_x, n_x, c_x, rfl, z_x, hb1⟩
    have R1 := (((R0.below hb1).add z_x).alloc 24 #[.bool b_x, .slice A_x n_x c_x] (g := w1.heap.size) rfl rfl)
    go_wp2_with fail
    refine (z2 _).mono ?_; rintro e w2 ⟨b_y, A_y, n_y, c_y, rfl, z_y, hb2⟩
    have R2 := (((R1.below hb2).add z_y).alloc 24 #[.bool b_y, .slice A_y n_y c_y] (g := w2.heap.size) rfl rfl)
    have hnx := (R2.z 1 rfl).neg_b
    have hny := (R2.z 0 rfl).neg_b
    have H1 := H0.out
    rw [HR.out, hnx, hny] at H1
    have H2 := Lib.hid H1
    clear H1 hnx hny H0
    have Rz := (R2.add ((R2.z 1 rfl).resign (b_x != b_y))).add ((R2.z 0 rfl).resign false)
    have k3x0 := Rz.cell 1 0 rfl rfl
    have k3x1 := Rz.cell 1 1 rfl rfl
    have k3y0 := Rz.cell 0 0 rfl rfl
    have k3y1 := Rz.cell 0 1 rfl rfl
    go_wp2_with fail
    clear k3x0 k3x1 k3y0 k3y1
    refine (rqplain (K := 3) (Rz.z 1 rfl) (Rz.z 0 rfl) (by omega) (by omega) (by omega) (by omega) H2.out).mono ?_; rintro e w3 ⟨b_p, A_p, n_p, c_p, b_q, A_q, n_q, c_q, rfl, z_p, z_q, hb3⟩
    have R3 := (((Rz.below hb3).add z_p).add z_q)
    have zr0 := R3.cell 2 0 rfl rfl
    have zr1 := R3.cell 2 1 rfl rfl
    have zr2 := R3.cell 2 2 rfl rfl
    have zr3 := R3.cell 2 3 rfl rfl
    have zfr0 := R3.frozen 2 0 rfl
    have zfr1 := R3.frozen 2 1 rfl
    have zfr2 := R3.frozen 2 2 rfl
    have zfr3 := R3.frozen 2 3 rfl
    go_wp2_with fail
    have R9_ := R3.st4 2 (.bool b_p) (.slice A_p n_p c_p) (.bool b_q) (.slice A_q n_q c_q) rfl rfl rfl rfl rfl
    refine bodyPost_ret (results_row_tmp rfl _ _ (w.heap.size) 26 #[.bool b_p, .slice A_p n_p c_p, .bool b_q, .slice A_q n_q c_q] (0, 0) _ rfl (R9_.b 2 rfl).is Tryz.underlying26 rfl (by kernel_rfl)) rfl ?_
    exact ⟨_, _, _, _, _, _, _, _, rfl, (R9_.z 1 rfl).mono (by omega), (R9_.z 0 rfl).mono (by omega), R9_.bel⟩
theorem zsame_v {w : World} {a b : Bool} {A B : Option Addr} {n c m d : Nat} {x y : Int} {i j : Nat} (ha : ZIs w a A n c x i true) (hb : ZIs w b B m d y j true) (hi : i ≤ 1073741824) (hj : j ≤ 1073741824) {z : Bool} (he : decide (x = y) = z) :
    Calls Tryz.prog 17 #[.agg #[.bool a, .slice A n c], .agg #[.bool b, .slice B m d]] w fun e w' => e = .returned (.bool z) ∧ Below w.heap.size w w' := by rw [← he]; exact zsame ha hb hi hj
set_option maxRecDepth 100000 in
set_option maxHeartbeats 1600000 in
theorem rqsame {w : World} {a b a' b' : Bool} {A B A' B' : Option Addr} {n c m d n' c' m' d' : Nat} {i j i' j' : Nat} {x y x' y' : Int} (ha : ZIs w a A n c x i true) (hb : ZIs w b B m d y j true) (ha' : ZIs w a' A' n' c' x' i' true) (hb' : ZIs w b' B' m' d' y' j' true) (hi : i ≤ 1048576) (hj : j ≤ 1048576) (hi' : i' ≤ 1048576) (hj' : j' ≤ 1048576) {z : Bool} (hz : decide (x = x' ∧ y = y') = z) : Calls Tryz.prog 22 #[.agg #[.bool a, .slice A n c, .bool b, .slice B m d], .agg #[.bool a', .slice A' n' c', .bool b', .slice B' m' d']] w fun e w' => e = .returned (.bool z) ∧ Below w.heap.size w w' := by
  have R0 := ((((((Env.nil_ w).add ha).add hb).add ha').add hb').alloc 26 #[.bool a, .slice A n c, .bool b, .slice B m d] (g := w.heap.size) rfl rfl).alloc 26 #[.bool a', .slice A' n' c', .bool b', .slice B' m' d'] (g := w.heap.size + 1) (by simp) rfl
  by_cases h1 : x = x'
  · obtain rfl : decide (y = y') = z := by rw [← hz]; simp [h1]
    have H1 := Lib.hid h1
    clear h1 hz
    obtain ⟨v, hv⟩ : ∃ v, decide (y = y') = v := ⟨_, rfl⟩
    rw [hv]
    have HV := Lib.hid hv
    clear hv
    go_enter Tryz.func22, Tryz.ntmps22
    have k1a0 := R0.cell 1 0 rfl rfl
    have k1a1 := R0.cell 1 1 rfl rfl
    have k1a2 := R0.cell 1 2 rfl rfl
    have k1a3 := R0.cell 1 3 rfl rfl
    have k1b0 := R0.cell 0 0 rfl rfl
    have k1b1 := R0.cell 0 1 rfl rfl
    have k1b2 := R0.cell 0 2 rfl rfl
    have k1b3 := R0.cell 0 3 rfl rfl
    go_wp2_with fail
    clear k1a0 k1a1 k1a2 k1a3 k1b0 k1b1 k1b2 k1b3
    refine (zsame_true (R0.z 3 rfl) (R0.z 1 rfl) (by omega) (by omega) H1.out).mono ?_; rintro e w1 ⟨rfl, hb1⟩
    have R1 := (R0.below hb1)
    have k2a0 := R1.cell 1 0 rfl rfl
    have k2a1 := R1.cell 1 1 rfl rfl
    have k2a2 := R1.cell 1 2 rfl rfl
    have k2a3 := R1.cell 1 3 rfl rfl
    have k2b0 := R1.cell 0 0 rfl rfl
    have k2b1 := R1.cell 0 1 rfl rfl
    have k2b2 := R1.cell 0 2 rfl rfl
    have k2b3 := R1.cell 0 3 rfl rfl
    go_wp2_with fail
    clear k2a0 k2a1 k2a2 k2a3 k2b0 k2b1 k2b2 k2b3
    refine (zsame_v (R1.z 2 rfl) (R1.z 0 rfl) (by omega) (by omega) HV.out).mono ?_; rintro e w2 ⟨rfl, hb2⟩
    have R2 := (R1.below hb2)
    go_wp2_with fail
    go_ret
    exact ⟨rfl, R2.bel⟩
  · obtain rfl : false = z := by rw [← hz]; simp [h1]
    have H1 := Lib.hid (decide_eq_false h1)
    clear h1 hz
    go_enter Tryz.func22, Tryz.ntmps22
    have k1a0 := R0.cell 1 0 rfl rfl
    have k1a1 := R0.cell 1 1 rfl rfl
    have k1a2 := R0.cell 1 2 rfl rfl
    have k1a3 := R0.cell 1 3 rfl rfl
    have k1b0 := R0.cell 0 0 rfl rfl
    have k1b1 := R0.cell 0 1 rfl rfl
    have k1b2 := R0.cell 0 2 rfl rfl
    have k1b3 := R0.cell 0 3 rfl rfl
    go_wp2_with fail
    clear k1a0 k1a1 k1a2 k1a3 k1b0 k1b1 k1b2 k1b3
    refine (zsame_v (R0.z 3 rfl) (R0.z 1 rfl) (by omega) (by omega) H1.out).mono ?_; rintro e w1 ⟨rfl, hb1⟩
    have R1 := (R0.below hb1)
    go_wp2_with fail
    go_ret
    exact ⟨rfl, R1.bel⟩
set_option maxRecDepth 100000 in
set_option maxHeartbeats 3200000 in
theorem rqcross {w : World} {a b a' b' : Bool} {A B A' B' : Option Addr} {n c m d n' c' m' d' : Nat} {x y x' y' : Int} {i j i' j' : Nat} {p q p' q' : Bool} (ha : ZIs w a A n c x i p) (hb : ZIs w b B m d y j q) (ha' : ZIs w a' A' n' c' x' i' p') (hb' : ZIs w b' B' m' d' y' j' q') {k : Nat} (hi : i ≤ k) (hj : j ≤ k) (hi' : i' ≤ k) (hj' : j' ≤ k) (hk : k ≤ 4096) (h1 : 1 ≤ k) {r s : Rat} (hr : qv x y = r) (hs : qv x' y' = s) : Calls Tryz.prog 73 #[.agg #[.bool a, .slice A n c, .bool b, .slice B m d], .agg #[.bool a', .slice A' n' c', .bool b', .slice B' m' d']] w fun e w' => ∃ b3 A3 n3 c3 b4 A4 n4 c4 b5 A5 n5 c5, e = .returned (.tuple #[.agg #[.bool b3, .slice A3 n3 c3], .agg #[.bool b4, .slice A4 n4 c4], .agg #[.bool b5, .slice A5 n5 c5]]) ∧ ZIs w' b3 A3 n3 c3 (r.num * s.den) (2 * k) true ∧ ZIs w' b4 A4 n4 c4 (s.num * r.den) (2 * k) true ∧ ZIs w' b5 A5 n5 c5 ((r.den : Int) * s.den) (2 * k) true ∧ Below w.heap.size w w' := by
  have R0 := (((((((((Env.nil_ w).add ha).add hb).add ha').add hb').alloc 26 #[.bool a, .slice A n c, .bool b, .slice B m d] (g := w.heap.size) rfl rfl).alloc 26 #[.bool a', .slice A' n' c', .bool b', .slice B' m' d'] (g := w.heap.size + 1) (by simp) rfl).alloc 24 #[.bool false, .slice none 0 0] (g := w.heap.size + 1 + 1) (by simp) rfl).alloc 24 #[.bool false, .slice none 0 0] (g := w.heap.size + 1 + 1 + 1) (by simp) rfl).alloc 24 #[.bool false, .slice none 0 0] (g := w.heap.size + 1 + 1 + 1 + 1) (by simp) rfl
  have HR := Lib.hid hr
  have HS := Lib.hid hs
  clear hr hs
  go_enter Tryz.func73, Tryz.ntmps73
  have k1a0 := R0.cell 4 0 rfl rfl
  have k1a1 := R0.cell 4 1 rfl rfl
  have k1a2 := R0.cell 4 2 rfl rfl
  have k1a3 := R0.cell 4 3 rfl rfl
  go_wp2_with fail
  clear k1a0 k1a1 k1a2 k1a3
  refine (rqplain (K := k) (R0.z 3 rfl) (R0.z 2 rfl) (by omega) (by omega) (by omega) h1 HR.out).mono ?_; rintro e w1 ⟨b_x, A_x, n_x, c_x, b_x_, A_x_, n_x_, c_x_, rfl, z_x, z_x_, hb1⟩
  have R1 := ((((R0.below hb1).add z_x).add z_x_).alloc 26 #[.bool b_x, .slice A_x n_x c_x, .bool b_x_, .slice A_x_ n_x_ c_x_] (g := w1.heap.size) rfl rfl)
  have k2b0 := R1.cell 4 0 rfl rfl
  have k2b1 := R1.cell 4 1 rfl rfl
  have k2b2 := R1.cell 4 2 rfl rfl
  have k2b3 := R1.cell 4 3 rfl rfl
  go_wp2_with fail
  clear k2b0 k2b1 k2b2 k2b3
  refine (rqplain (K := k) (R1.z 3 rfl) (R1.z 2 rfl) (by omega) (by omega) (by omega) h1 HS.out).mono ?_; rintro e w2 ⟨b_y, A_y, n_y, c_y, b_y_, A_y_, n_y_, c_y_, rfl, z_y, z_y_, hb2⟩
  have R2 := ((((R1.below hb2).add z_y).add z_y_).alloc 26 #[.bool b_y, .slice A_y n_y c_y, .bool b_y_, .slice A_y_ n_y_ c_y_] (g := w2.heap.size) rfl rfl)
  go_wp2_with fail
  have D3 := R2.drew
  have s3 := And.intro (D3.cell 1 0 rfl rfl) (And.intro (D3.cell 1 1 rfl rfl) (And.intro (D3.cell 1 2 rfl rfl) (And.intro (D3.cell 1 3 rfl rfl) (And.intro (D3.cell 0 0 rfl rfl) (And.intro (D3.cell 0 1 rfl rfl) (And.intro (D3.cell 0 2 rfl rfl) (D3.cell 0 3 rfl rfl)))))))
  refine wp_region_late [15, 16, 17] (fun w' => w'.cell? ⟨w1.heap.size, 0, none⟩ = some (.bool b_x) ∧ w'.cell? ⟨w1.heap.size, 1, none⟩ = some (.slice A_x n_x c_x) ∧ w'.cell? ⟨w1.heap.size, 2, none⟩ = some (.bool b_x_) ∧ w'.cell? ⟨w1.heap.size, 3, none⟩ = some (.slice A_x_ n_x_ c_x_) ∧ w'.cell? ⟨w2.heap.size, 0, none⟩ = some (.bool b_y) ∧ w'.cell? ⟨w2.heap.size, 1, none⟩ = some (.slice A_y n_y c_y) ∧ w'.cell? ⟨w2.heap.size, 2, none⟩ = some (.bool b_y_) ∧ w'.cell? ⟨w2.heap.size, 3, none⟩ = some (.slice A_y_ n_y_ c_y_)) (by kernel_rfl) ?_
  refine wpAnyL_take (i := 0) (v := ?_) rfl (by kernel_rfl) (by kernel_rfl) (by kernel_rfl) (by kernel_rfl) (by kernel_rfl) (fun _ _ _ h => h) (Or.inl ⟨by kernel_rfl, ?_⟩) s3 ?_
  rotate_left
  · rintro w' ⟨h1, h2, h3, h4, h5, h6, h7, h8⟩; go_simp; (try with_reducible rfl)
  try simp only [Act.put, List.setIfInBounds_toArray, List.set_cons_zero, List.set_cons_succ]
  refine wpAnyL_take (i := 1) (v := .agg #[.bool b_x, .slice A_x n_x c_x]) rfl (by kernel_rfl) (by kernel_rfl) (by kernel_rfl) (by kernel_rfl) (by kernel_rfl) (fun _ _ _ h => h) (Or.inl ⟨by rfl, by rintro w' ⟨h1, h2, h3, h4, h5, h6, h7, h8⟩; go_simp⟩) s3 ?_
  try simp only [Act.put, List.setIfInBounds_toArray, List.set_cons_zero, List.set_cons_succ]
  refine wpAnyL_take (i := 2) (v := ?_) rfl (by kernel_rfl) (by kernel_rfl) (by kernel_rfl) (by kernel_rfl) (by kernel_rfl) (fun _ _ _ h => h) (Or.inl ⟨by kernel_rfl, ?_⟩) s3 ?_
  rotate_left
  · rintro w' ⟨h1, h2, h3, h4, h5, h6, h7, h8⟩; go_simp; (try with_reducible rfl)
  try simp only [Act.put, List.setIfInBounds_toArray, List.set_cons_zero, List.set_cons_succ]
  refine wpAnyL_take (i := 3) (v := .agg #[.bool b_y_, .slice A_y_ n_y_ c_y_]) rfl (by kernel_rfl) (by kernel_rfl) (by kernel_rfl) (by kernel_rfl) (by kernel_rfl) (fun _ _ _ h => h) (Or.inl ⟨by rfl, by rintro w' ⟨h1, h2, h3, h4, h5, h6, h7, h8⟩; go_simp⟩) s3 ?_
  try simp only [Act.put, List.setIfInBounds_toArray, List.set_cons_zero, List.set_cons_succ]
  refine wpAnyL_take (i := 5) (v := ?_) rfl (by kernel_rfl) (by kernel_rfl) (by kernel_rfl) (by kernel_rfl) (by kernel_rfl) (fun _ _ _ h => h) (Or.inl ⟨by kernel_rfl, ?_⟩) s3 ?_
  rotate_left
  · rintro w' ⟨h1, h2, h3, h4, h5, h6, h7, h8⟩; go_simp; (try with_reducible rfl)
  try simp only [Act.put, List.setIfInBounds_toArray, List.set_cons_zero, List.set_cons_succ]
  refine wpAnyL_take (i := 6) (v := .agg #[.bool b_y, .slice A_y n_y c_y]) rfl (by kernel_rfl) (by kernel_rfl) (by kernel_rfl) (by kernel_rfl) (by kernel_rfl) (fun _ _ _ h => h) (Or.inl ⟨by rfl, by rintro w' ⟨h1, h2, h3, h4, h5, h6, h7, h8⟩; go_simp⟩) s3 ?_
  try simp only [Act.put, List.setIfInBounds_toArray, List.set_cons_zero, List.set_cons_succ]
  refine wpAnyL_take (i := 7) (v := ?_) rfl (by kernel_rfl) (by kernel_rfl) (by kernel_rfl) (by kernel_rfl) (by kernel_rfl) (fun _ _ _ h => h) (Or.inl ⟨by kernel_rfl, ?_⟩) s3 ?_
  rotate_left
  · rintro w' ⟨h1, h2, h3, h4, h5, h6, h7, h8⟩; go_simp; (try with_reducible rfl)
  try simp only [Act.put, List.setIfInBounds_toArray, List.set_cons_zero, List.set_cons_succ]
  refine wpAnyL_take (i := 8) (v := .agg #[.bool b_x_, .slice A_x_ n_x_ c_x_]) rfl (by kernel_rfl) (by kernel_rfl) (by kernel_rfl) (by kernel_rfl) (by kernel_rfl) (fun _ _ _ h => h) (Or.inl ⟨by rfl, by rintro w' ⟨h1, h2, h3, h4, h5, h6, h7, h8⟩; go_simp⟩) s3 ?_
  try simp only [Act.put, List.setIfInBounds_toArray, List.set_cons_zero, List.set_cons_succ]
  refine wpAnyL_take (i := 10) (v := ?_) rfl (by kernel_rfl) (by kernel_rfl) (by kernel_rfl) (by kernel_rfl) (by kernel_rfl) (fun _ _ _ h => h) (Or.inl ⟨by kernel_rfl, ?_⟩) s3 ?_
  rotate_left
  · rintro w' ⟨h1, h2, h3, h4, h5, h6, h7, h8⟩; go_simp; (try with_reducible rfl)
  try simp only [Act.put, List.setIfInBounds_toArray, List.set_cons_zero, List.set_cons_succ]
  refine wpAnyL_take (i := 11) (v := .agg #[.bool b_x_, .slice A_x_ n_x_ c_x_]) rfl (by kernel_rfl) (by kernel_rfl) (by kernel_rfl) (by kernel_rfl) (by kernel_rfl) (fun _ _ _ h => h) (Or.inl ⟨by rfl, by rintro w' ⟨h1, h2, h3, h4, h5, h6, h7, h8⟩; go_simp⟩) s3 ?_
  try simp only [Act.put, List.setIfInBounds_toArray, List.set_cons_zero, List.set_cons_succ]
  refine wpAnyL_take (i := 12) (v := ?_) rfl (by kernel_rfl) (by kernel_rfl) (by kernel_rfl) (by kernel_rfl) (by kernel_rfl) (fun _ _ _ h => h) (Or.inl ⟨by kernel_rfl, ?_⟩) s3 ?_
  rotate_left
  · rintro w' ⟨h1, h2, h3, h4, h5, h6, h7, h8⟩; go_simp; (try with_reducible rfl)
  try simp only [Act.put, List.setIfInBounds_toArray, List.set_cons_zero, List.set_cons_succ]
  refine wpAnyL_take (i := 13) (v := .agg #[.bool b_y_, .slice A_y_ n_y_ c_y_]) rfl (by kernel_rfl) (by kernel_rfl) (by kernel_rfl) (by kernel_rfl) (by kernel_rfl) (fun _ _ _ h => h) (Or.inl ⟨by rfl, by rintro w' ⟨h1, h2, h3, h4, h5, h6, h7, h8⟩; go_simp⟩) s3 ?_
  try simp only [Act.put, List.setIfInBounds_toArray, List.set_cons_zero, List.set_cons_succ]
  refine wpAnyL_one (i := 4) (by kernel_rfl) rfl (fun K hK => ?_)
  go_simp
  refine (rmul_t (K := 2 * k) (D3.z 3 rfl) (D3.z 0 rfl) (by omega) (by omega) (by omega)).mono ?_; rintro e w4 ⟨b_p, A_p, n_p, c_p, rfl, z_p, hb4⟩
  have R4 := ((D3.below hb4).add z_p)
  have s4 := And.intro (R4.cell 1 0 rfl rfl) (And.intro (R4.cell 1 1 rfl rfl) (And.intro (R4.cell 1 2 rfl rfl) (And.intro (R4.cell 1 3 rfl rfl) (And.intro (R4.cell 0 0 rfl rfl) (And.intro (R4.cell 0 1 rfl rfl) (And.intro (R4.cell 0 2 rfl rfl) (R4.cell 0 3 rfl rfl)))))))
  go_wp2_with fail
  refine hK.out _ _ (fun _ => s4) ?_
  clear hK K
  try simp only [Act.put, List.setIfInBounds_toArray, List.set_cons_zero, List.set_cons_succ]
  refine wpAnyL_one (i := 9) (by kernel_rfl) rfl (fun K hK => ?_)
  go_simp
  refine (rmul_t (K := 2 * k) (R4.z 2 rfl) (R4.z 3 rfl) (by omega) (by omega) (by omega)).mono ?_; rintro e w5 ⟨b_q, A_q, n_q, c_q, rfl, z_q, hb5⟩
  have R5 := ((R4.below hb5).add z_q)
  have s5 := And.intro (R5.cell 1 0 rfl rfl) (And.intro (R5.cell 1 1 rfl rfl) (And.intro (R5.cell 1 2 rfl rfl) (And.intro (R5.cell 1 3 rfl rfl) (And.intro (R5.cell 0 0 rfl rfl) (And.intro (R5.cell 0 1 rfl rfl) (And.intro (R5.cell 0 2 rfl rfl) (R5.cell 0 3 rfl rfl)))))))
  go_wp2_with fail
  refine hK.out _ _ (fun _ => s5) ?_
  clear hK K
  try simp only [Act.put, List.setIfInBounds_toArray, List.set_cons_zero, List.set_cons_succ]
  refine wpAnyL_one (i := 14) (by kernel_rfl) rfl (fun K hK => ?_)
  go_simp
  refine (rmul_t (K := 2 * k) (R5.z 4 rfl) (R5.z 2 rfl) (by omega) (by omega) (by omega)).mono ?_; rintro e w6 ⟨b_u, A_u, n_u, c_u, rfl, z_u, hb6⟩
  have R6 := ((R5.below hb6).add z_u)
  have s6 := And.intro (R6.cell 1 0 rfl rfl) (And.intro (R6.cell 1 1 rfl rfl) (And.intro (R6.cell 1 2 rfl rfl) (And.intro (R6.cell 1 3 rfl rfl) (And.intro (R6.cell 0 0 rfl rfl) (And.intro (R6.cell 0 1 rfl rfl) (And.intro (R6.cell 0 2 rfl rfl) (R6.cell 0 3 rfl rfl)))))))
  go_wp2_with fail
  refine hK.out _ _ (fun _ => s6) ?_
  clear hK K
  try simp only [Act.put, List.setIfInBounds_toArray, List.set_cons_zero, List.set_cons_succ]
  have fcr10 := R6.cell 4 0 rfl rfl
  have ffr10 := R6.frozen 4 0 rfl
  have fcr11 := R6.cell 4 1 rfl rfl
  have ffr11 := R6.frozen 4 1 rfl
  have fcr20 := R6.cell 3 0 rfl rfl
  have ffr20 := R6.frozen 3 0 rfl
  have fcr21 := R6.cell 3 1 rfl rfl
  have ffr21 := R6.frozen 3 1 rfl
  have fcr30 := R6.cell 2 0 rfl rfl
  have ffr30 := R6.frozen 2 0 rfl
  have fcr31 := R6.cell 2 1 rfl rfl
  have ffr31 := R6.frozen 2 1 rfl
  refine wpAnyL_one (i := 15) (by kernel_rfl) rfl (fun K hK => ?_)
  go_simp
  refine hK.out _ _ (fun h => absurd (by simp) h) ?_
  clear hK K
  try simp only [Act.put, List.setIfInBounds_toArray, List.set_cons_zero, List.set_cons_succ]
  refine wpAnyL_one (i := 16) (by kernel_rfl) rfl (fun K hK => ?_)
  go_simp
  refine hK.out _ _ (fun h => absurd (by simp) h) ?_
  clear hK K
  try simp only [Act.put, List.setIfInBounds_toArray, List.set_cons_zero, List.set_cons_succ]
  refine wpAnyL_one (i := 17) (by kernel_rfl) rfl (fun K hK => ?_)
  go_simp
  refine hK.out _ _ (fun h => absurd (by simp) h) ?_
  clear hK K
  try simp only [Act.put, List.setIfInBounds_toArray, List.set_cons_zero, List.set_cons_succ]
  refine wpAnyL_done (by kernel_rfl) ?_ _
  clear fcr10 ffr10 fcr11 ffr11 fcr20 ffr20 fcr21 ffr21 fcr30 ffr30 fcr31 ffr31
  have R7 := (((R6.st2 4 (.bool b_p) (.slice A_p n_p c_p) rfl rfl rfl).st2 3 (.bool b_q) (.slice A_q n_q c_q) rfl rfl rfl).st2 2 (.bool b_u) (.slice A_u n_u c_u) rfl rfl rfl)
  generalize ((((((w6.setCell ⟨w.heap.size + 1 + 1, 0, none⟩ (.bool b_p)).setCell ⟨w.heap.size + 1 + 1, 1, none⟩ (.slice A_p n_p c_p)).setCell ⟨w.heap.size + 1 + 1 + 1, 0, none⟩ (.bool b_q)).setCell ⟨w.heap.size + 1 + 1 + 1, 1, none⟩ (.slice A_q n_q c_q)).setCell ⟨w.heap.size + 1 + 1 + 1 + 1, 0, none⟩ (.bool b_u)).setCell ⟨w.heap.size + 1 + 1 + 1 + 1, 1, none⟩ (.slice A_u n_u c_u)) = w7 at *
  go_wp2_with fail
  refine bodyPost_ret (results_row3 rfl _ _ (w.heap.size + 1 + 1) (w.heap.size + 1 + 1 + 1) (w.heap.size + 1 + 1 + 1 + 1) 24 24 24 #[.bool b_p, .slice A_p n_p c_p] #[.bool b_q, .slice A_q n_q c_q] #[.bool b_u, .slice A_u n_u c_u] (0, 0) (0, 0) (0, 0) _ rfl (R7.b 4 rfl).is rfl (R7.b 3 rfl).is rfl (R7.b 2 rfl).is Tryz.underlying24 rfl (by kernel_rfl) (by kernel_rfl) (by kernel_rfl)) rfl ?_
  exact ⟨_, _, _, _, _, _, _, _, _, _, _, _, rfl, (R7.z 2 rfl), (R7.z 1 rfl), (R7.z 0 rfl), R7.bel⟩
set_option maxRecDepth 100000 in
set_option maxHeartbeats 1600000 in
theorem rqcmp {w : World} {a b a' b' : Bool} {A B A' B' : Option Addr} {n c m d n' c' m' d' : Nat} {x y x' y' : Int} {i j i' j' : Nat} {p q p' q' : Bool} (ha : ZIs w a A n c x i p) (hb : ZIs w b B m d y j q) (ha' : ZIs w a' A' n' c' x' i' p') (hb' : ZIs w b' B' m' d' y' j' q') {k : Nat} (hi : i ≤ k) (hj : j ≤ k) (hi' : i' ≤ k) (hj' : j' ≤ k) (hk : k ≤ 4096) (h1 : 1 ≤ k) {r s : Rat} (hr : qv x y = r) (hs : qv x' y' = s) {z : Int} (hz : qcmp r s = z) : Calls Tryz.prog 35 #[.agg #[.bool a, .slice A n c, .bool b, .slice B m d], .agg #[.bool a', .slice A' n' c', .bool b', .slice B' m' d']] w fun e w' => e = .returned (.int .i64 z) ∧ Below w.heap.size w w' := by
  have R0 := ((((((Env.nil_ w).add ha).add hb).add ha').add hb').alloc 26 #[.bool a, .slice A n c, .bool b, .slice B m d] (g := w.heap.size) rfl rfl).alloc 26 #[.bool a', .slice A' n' c', .bool b', .slice B' m' d'] (g := w.heap.size + 1) (by simp) rfl
  have HR := Lib.hid hr
  have HS := Lib.hid hs
  clear hr hs
  have HZ := Lib.hid ((qcmp_cross r s).trans hz)
  clear hz
  go_enter Tryz.func35, Tryz.ntmps35
  have k1a0 := R0.cell 1 0 rfl rfl
  have k1a1 := R0.cell 1 1 rfl rfl
  have k1a2 := R0.cell 1 2 rfl rfl
  have k1a3 := R0.cell 1 3 rfl rfl
  have k1b0 := R0.cell 0 0 rfl rfl
  have k1b1 := R0.cell 0 1 rfl rfl
  have k1b2 := R0.cell 0 2 rfl rfl
  have k1b3 := R0.cell 0 3 rfl rfl
  go_wp2_with fail
  clear k1a0 k1a1 k1a2 k1a3 k1b0 k1b1 k1b2 k1b3
  refine (rqcross (R0.z 3 rfl) (R0.z 2 rfl) (R0.z 1 rfl) (R0.z 0 rfl) hi hj hi' hj' hk h1 HR.out HS.out).mono ?_; rintro e w1 ⟨b_p, A_p, n_p, c_p, b_q, A_q, n_q, c_q, b_u, A_u, n_u, c_u, rfl, z_p, z_q, z_u, hb1⟩
  have R1 := (((((((R0.below hb1).add z_p).add z_q).add z_u).alloc 24 #[.bool b_p, .slice A_p n_p c_p] (g := w1.heap.size) rfl rfl).alloc 24 #[.bool b_q, .slice A_q n_q c_q] (g := w1.heap.size + 1) (by simp) rfl).alloc 24 #[.bool b_u, .slice A_u n_u c_u] (g := w1.heap.size + 1 + 1) (by simp) rfl)
  have k2p0 := R1.cell 2 0 rfl rfl
  have k2p1 := R1.cell 2 1 rfl rfl
  have k2q0 := R1.cell 1 0 rfl rfl
  have k2q1 := R1.cell 1 1 rfl rfl
  go_wp2_with fail
  clear k2p0 k2p1 k2q0 k2q1
  refine (rzcmp_is (R1.z 2 rfl) (R1.z 1 rfl) (by omega) (by omega) z HZ.out).mono ?_; rintro e w2 ⟨rfl, hb2⟩
  have R2 := (R1.below hb2)
  go_wp2_with fail
  go_ret
  exact ⟨rfl, R2.bel⟩
end Go.Proofs.YticjhlbmdjijnaaGreatDoor
