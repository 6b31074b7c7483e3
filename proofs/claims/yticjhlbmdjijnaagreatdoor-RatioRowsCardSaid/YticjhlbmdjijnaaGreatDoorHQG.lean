/- The contracts of package ratio: Floor, Ceil, Frac, Text, Bytes. No condition but the reach of a slice. -/
import Derived.Test.YticjhlbmdjijnaaGreatDoorHQE
import Derived.Test.YticjhlbmdjijnaaGreatDoorHQF
import Derived.Test.YticjhlbmdjijnaaGreatDoorHQTxt
import Derived.Test.YticjhlbmdjijnaaGreatDoorHLate2
namespace Go.Proofs.YticjhlbmdjijnaaGreatDoor
set_option linter.unusedSimpArgs false
set_option linter.unusedVariables false
open Go.RowKit

set_option maxRecDepth 100000 in
set_option maxHeartbeats 1600000 in
theorem qfloor {w : World} {a b : Bool} {A B : Option Addr} {n c m d : Nat} {x y : Int} {i j : Nat} {p q : Bool} (ha : ZIs w a A n c x i p) (hb : ZIs w b B m d y j q) {k : Nat} (hi : i ≤ k) (hj : j ≤ k) (hk : k ≤ 65536) (h1 : 1 ≤ k) {r : Rat} (hr : qv x y = r) : Calls Tryz.prog 18 #[.agg #[.bool a, .slice A n c, .bool b, .slice B m d]] w fun e w' => ∃ b3 A3 n3, e = .returned (.agg #[.bool b3, .slice A3 n3 n3]) ∧ ZIs w' b3 A3 n3 n3 (r.floor) k true ∧ Below w.heap.size w w' := by
  have R0 := (((((Env.nil_ w).add ha).add hb)).alloc 26 #[.bool a, .slice A n c, .bool b, .slice B m d] (g := w.heap.size) rfl rfl).alloc 24 #[.bool false, .slice none 0 0] (g := w.heap.size + 1) (by simp) rfl
  have HR := Lib.hid hr
  clear hr
  go_enter Tryz.func18, Tryz.ntmps18
  have k1a0 := R0.cell 1 0 rfl rfl
  have k1a1 := R0.cell 1 1 rfl rfl
  have k1a2 := R0.cell 1 2 rfl rfl
  have k1a3 := R0.cell 1 3 rfl rfl
  go_wp2_with fail
  clear k1a0 k1a1 k1a2 k1a3
  refine (qplain (K := k) (R0.z 1 rfl) (R0.z 0 rfl) (by omega) (by omega) (by omega) h1 HR.out).mono ?_; rintro e w1 ⟨b_x, A_x, n_x, b_x_, A_x_, n_x_, rfl, z_x, z_x_, hb1⟩
  have R1 := (((R0.below hb1).add z_x).add z_x_)
  have za0 := R1.cell 1 0 rfl rfl
  have za1 := R1.cell 1 1 rfl rfl
  have za2 := R1.cell 1 2 rfl rfl
  have za3 := R1.cell 1 3 rfl rfl
  have zfa0 := R1.frozen 1 0 rfl
  have zfa1 := R1.frozen 1 1 rfl
  have zfa2 := R1.frozen 1 2 rfl
  have zfa3 := R1.frozen 1 3 rfl
  go_wp2_with fail
  clear za0 za1 za2 za3 zfa0 zfa1 zfa2 zfa3
  have R2 := (R1.st4 1 (.bool b_x) (.slice A_x n_x n_x) (.bool b_x_) (.slice A_x_ n_x_ n_x_) rfl rfl rfl rfl rfl)
  generalize ((((w1.setCell ⟨w.heap.size, 0, none⟩ (.bool b_x)).setCell ⟨w.heap.size, 1, none⟩ (.slice A_x n_x n_x)).setCell ⟨w.heap.size, 2, none⟩ (.bool b_x_)).setCell ⟨w.heap.size, 3, none⟩ (.slice A_x_ n_x_ n_x_)) = w2 at *
  refine (zdiv (K := k + 3) (L := k + 1) (R2.z 1 rfl) (R2.z 0 rfl) (by omega) (by omega) (Int.ne_of_gt (qden_pos r)) (by omega) (by omega)).mono ?_; rintro e w3 ⟨b_q, A_q, n_q, b_u, A_u, n_u, rfl, z_q, z_u, hb3⟩
  have R3 := (((((R2.below hb3).add z_q).add z_u).alloc 24 #[.bool b_q, .slice A_q n_q n_q] (g := w3.heap.size) rfl rfl).alloc 24 #[.bool b_u, .slice A_u n_u n_u] (g := w3.heap.size + 1) (by simp) rfl)
  have hq := (R3.z 1 rfl)
  rw [qfloor_of] at hq
  have HL := Lib.hid (Nat.lt_of_le_of_lt (qfloor_abs r) ((R3.z 3 rfl).lt))
  have zr0 := R3.cell 2 0 rfl rfl
  have zr1 := R3.cell 2 1 rfl rfl
  have zq0 := R3.cell 1 0 rfl rfl
  have zq1 := R3.cell 1 1 rfl rfl
  have zu0 := R3.cell 0 0 rfl rfl
  have zu1 := R3.cell 0 1 rfl rfl
  have zfr0 := R3.frozen 2 0 rfl
  have zfr1 := R3.frozen 2 1 rfl
  go_wp2_with fail
  have R9_ := R3.st2 2 (.bool b_q) (.slice A_q n_q n_q) rfl rfl rfl
  refine bodyPost_ret (results_cell_row rfl _ _ (w.heap.size + 1) 24 #[.bool b_q, .slice A_q n_q n_q] (0, 0) _ rfl (R9_.b 2 rfl).is Tryz.underlying24 rfl (by kernel_rfl)) rfl ?_
  exact ⟨_, _, _, rfl, ((R9_.z 1 rfl).as (qfloor_of r)).tight HL.out, R9_.bel⟩
set_option maxRecDepth 100000 in
set_option maxHeartbeats 1600000 in
theorem qceil {w : World} {a b : Bool} {A B : Option Addr} {n c m d : Nat} {x y : Int} {i j : Nat} {p q : Bool} (ha : ZIs w a A n c x i p) (hb : ZIs w b B m d y j q) {k : Nat} (hi : i ≤ k) (hj : j ≤ k) (hk : k ≤ 65536) (h1 : 1 ≤ k) {r : Rat} (hr : qv x y = r) : Calls Tryz.prog 20 #[.agg #[.bool a, .slice A n c, .bool b, .slice B m d]] w fun e w' => ∃ b3 A3 n3, e = .returned (.agg #[.bool b3, .slice A3 n3 n3]) ∧ ZIs w' b3 A3 n3 n3 (r.ceil) k true ∧ Below w.heap.size w w' := by
  have R0 := (((((Env.nil_ w).add ha).add hb)).alloc 26 #[.bool a, .slice A n c, .bool b, .slice B m d] (g := w.heap.size) rfl rfl).alloc 24 #[.bool false, .slice none 0 0] (g := w.heap.size + 1) (by simp) rfl
  have HR := Lib.hid hr
  clear hr
  go_enter Tryz.func20, Tryz.ntmps20
  have k1a0 := R0.cell 1 0 rfl rfl
  have k1a1 := R0.cell 1 1 rfl rfl
  have k1a2 := R0.cell 1 2 rfl rfl
  have k1a3 := R0.cell 1 3 rfl rfl
  go_wp2_with fail
  clear k1a0 k1a1 k1a2 k1a3
  refine (qplain (K := k) (R0.z 1 rfl) (R0.z 0 rfl) (by omega) (by omega) (by omega) h1 HR.out).mono ?_; rintro e w1 ⟨b_x, A_x, n_x, b_x_, A_x_, n_x_, rfl, z_x, z_x_, hb1⟩
  have R1 := (((R0.below hb1).add z_x).add z_x_)
  have za0 := R1.cell 1 0 rfl rfl
  have za1 := R1.cell 1 1 rfl rfl
  have za2 := R1.cell 1 2 rfl rfl
  have za3 := R1.cell 1 3 rfl rfl
  have zfa0 := R1.frozen 1 0 rfl
  have zfa1 := R1.frozen 1 1 rfl
  have zfa2 := R1.frozen 1 2 rfl
  have zfa3 := R1.frozen 1 3 rfl
  go_wp2_with fail
  clear za0 za1 za2 za3 zfa0 zfa1 zfa2 zfa3
  have R2 := (R1.st4 1 (.bool b_x) (.slice A_x n_x n_x) (.bool b_x_) (.slice A_x_ n_x_ n_x_) rfl rfl rfl rfl rfl)
  generalize ((((w1.setCell ⟨w.heap.size, 0, none⟩ (.bool b_x)).setCell ⟨w.heap.size, 1, none⟩ (.slice A_x n_x n_x)).setCell ⟨w.heap.size, 2, none⟩ (.bool b_x_)).setCell ⟨w.heap.size, 3, none⟩ (.slice A_x_ n_x_ n_x_)) = w2 at *
  have R3 := R2.drew
  refine wp_region_late [] (fun w' => w'.cell? ⟨w.heap.size, 0, none⟩ = some (.bool b_x) ∧ w'.cell? ⟨w.heap.size, 1, none⟩ = some (.slice A_x n_x n_x) ∧ w'.cell? ⟨w.heap.size, 2, none⟩ = some (.bool b_x_) ∧ w'.cell? ⟨w.heap.size, 3, none⟩ = some (.slice A_x_ n_x_ n_x_)) (by kernel_rfl) ?_
  generalize hgw : World.drew _ = w3 at *
  clear hgw
  have s3 := And.intro (R3.cell 1 0 rfl rfl) (And.intro (R3.cell 1 1 rfl rfl) (And.intro (R3.cell 1 2 rfl rfl) (R3.cell 1 3 rfl rfl)))
  refine wpAnyL_take (i := 0) (v := .agg #[.bool false, .slice none 0 0]) rfl (by kernel_rfl) (by kernel_rfl) (by kernel_rfl) (by kernel_rfl) (by kernel_rfl) (fun _ _ _ h => h) (Or.inl ⟨by rfl, by rintro w' ⟨h1, h2, h3, h4⟩; go_simp⟩) s3 ?_
  try simp only [Act.put, List.setIfInBounds_toArray, List.set_cons_zero, List.set_cons_succ]
  refine wpAnyL_take (i := 1) (v := ?_) rfl (by kernel_rfl) (by kernel_rfl) (by kernel_rfl) (by kernel_rfl) (by kernel_rfl) (fun _ _ _ h => h) (Or.inl ⟨by kernel_rfl, ?_⟩) s3 ?_
  rotate_left
  · rintro w' ⟨h1, h2, h3, h4⟩; go_simp; (try with_reducible rfl)
  try simp only [Act.put, List.setIfInBounds_toArray, List.set_cons_zero, List.set_cons_succ]
  refine wpAnyL_take (i := 2) (v := .agg #[.bool b_x, .slice A_x n_x n_x]) rfl (by kernel_rfl) (by kernel_rfl) (by kernel_rfl) (by kernel_rfl) (by kernel_rfl) (fun _ _ _ h => h) (Or.inl ⟨by rfl, by rintro w' ⟨h1, h2, h3, h4⟩; go_simp⟩) s3 ?_
  try simp only [Act.put, List.setIfInBounds_toArray, List.set_cons_zero, List.set_cons_succ]
  refine wpAnyL_take (i := 4) (v := ?_) rfl (by kernel_rfl) (by kernel_rfl) (by kernel_rfl) (by kernel_rfl) (by kernel_rfl) (fun _ _ _ h => h) (Or.inl ⟨by kernel_rfl, ?_⟩) s3 ?_
  rotate_left
  · rintro w' ⟨h1, h2, h3, h4⟩; go_simp; (try with_reducible rfl)
  try simp only [Act.put, List.setIfInBounds_toArray, List.set_cons_zero, List.set_cons_succ]
  refine wpAnyL_take (i := 5) (v := .agg #[.bool b_x_, .slice A_x_ n_x_ n_x_]) rfl (by kernel_rfl) (by kernel_rfl) (by kernel_rfl) (by kernel_rfl) (by kernel_rfl) (fun _ _ _ h => h) (Or.inl ⟨by rfl, by rintro w' ⟨h1, h2, h3, h4⟩; go_simp⟩) s3 ?_
  try simp only [Act.put, List.setIfInBounds_toArray, List.set_cons_zero, List.set_cons_succ]
  refine wpAnyL_all (rs := [3, 11, 12]) (by kernel_rfl) (by simp) (StepsL.cons (i := 3) rfl (fun K hK => ?_) (StepsL.cons (i := 11) rfl (fun K hK => ?_) (StepsL.cons (i := 12) rfl (fun K hK => ?_) StepsL.nil)))
  · go_simp
    refine (zsub (K := k + 1) (ZIs.nil_ _ none 0 0) (R3.z 1 rfl) (by omega) (by omega) (by omega)).mono ?_; rintro e w4 ⟨b_v, A_v, n_v, rfl, z_v, hb4⟩
    have R4 := ((R3.below hb4).add z_v)
    have s4 := And.intro (R4.cell 1 0 rfl rfl) (And.intro (R4.cell 1 1 rfl rfl) (And.intro (R4.cell 1 2 rfl rfl) (R4.cell 1 3 rfl rfl)))
    go_wp2_with fail
    refine hK.out _ _ (fun _ => s4) ?_
    clear hK K
    try simp only [Act.put, List.setIfInBounds_toArray, List.set_cons_zero, List.set_cons_succ]
    refine wpAnyL_all (rs := [6, 11, 12]) (by kernel_rfl) (by simp) (StepsL.cons (i := 6) rfl (fun K hK => ?_) (StepsL.cons (i := 11) rfl (fun K hK => ?_) (StepsL.cons (i := 12) rfl (fun K hK => ?_) StepsL.nil)))
    · go_simp
      refine (zdiv (K := k + 4) (L := k + 2) (R4.z 0 rfl) (R4.z 1 rfl) (by omega) (by omega) (Int.ne_of_gt (qden_pos r)) (by omega) (by omega)).mono ?_; rintro e w5 ⟨b_q, A_q, n_q, b_u, A_u, n_u, rfl, z_q, z_u, hb5⟩
      have R5 := (((R4.below hb5).add z_q).add z_u)
      have s5 := And.intro (R5.cell 1 0 rfl rfl) (And.intro (R5.cell 1 1 rfl rfl) (And.intro (R5.cell 1 2 rfl rfl) (R5.cell 1 3 rfl rfl)))
      go_wp2_with fail
      refine hK.out _ _ (fun _ => s5) ?_
      clear hK K
      try simp only [Act.put, List.setIfInBounds_toArray, List.set_cons_zero, List.set_cons_succ]
      refine wpAnyL_take (i := 7) (v := ?_) rfl (by kernel_rfl) (by kernel_rfl) (by kernel_rfl) (by kernel_rfl) (by kernel_rfl) (fun _ _ _ h => h) (Or.inl ⟨by kernel_rfl, ?_⟩) s5 ?_
      rotate_left
      · rintro w' ⟨h1, h2, h3, h4⟩; go_simp; (try with_reducible rfl)
      try simp only [Act.put, List.setIfInBounds_toArray, List.set_cons_zero, List.set_cons_succ]
      refine wpAnyL_take (i := 8) (v := ?_) rfl (by kernel_rfl) (by kernel_rfl) (by kernel_rfl) (by kernel_rfl) (by kernel_rfl) (fun _ _ _ h => h) (Or.inl ⟨by kernel_rfl, ?_⟩) s5 ?_
      rotate_left
      · rintro w' ⟨h1, h2, h3, h4⟩; go_simp; (try with_reducible rfl)
      try simp only [Act.put, List.setIfInBounds_toArray, List.set_cons_zero, List.set_cons_succ]
      refine wpAnyL_take (i := 9) (v := ?_) rfl (by kernel_rfl) (by kernel_rfl) (by kernel_rfl) (by kernel_rfl) (by kernel_rfl) (fun _ _ _ h => h) (Or.inl ⟨by kernel_rfl, ?_⟩) s5 ?_
      rotate_left
      · rintro w' ⟨h1, h2, h3, h4⟩; go_simp; (try with_reducible rfl)
      try simp only [Act.put, List.setIfInBounds_toArray, List.set_cons_zero, List.set_cons_succ]
      refine wpAnyL_take (i := 10) (v := ?_) rfl (by kernel_rfl) (by kernel_rfl) (by kernel_rfl) (by kernel_rfl) (by kernel_rfl) (fun _ _ _ h => h) (Or.inl ⟨by kernel_rfl, ?_⟩) s5 ?_
      rotate_left
      · rintro w' ⟨h1, h2, h3, h4⟩; go_simp; (try with_reducible rfl)
      try simp only [Act.put, List.setIfInBounds_toArray, List.set_cons_zero, List.set_cons_succ]
      refine wpAnyL_all (rs := [11, 12]) (by kernel_rfl) (by simp) (StepsL.cons (i := 11) rfl (fun K hK => ?_) (StepsL.cons (i := 12) rfl (fun K hK => ?_) StepsL.nil))
      · go_simp
        have R6 := R5.alloc 24 #[.bool false, .slice none 0 0] (g := w5.heap.size) rfl rfl
        have s6 := And.intro (R6.cell 2 0 rfl rfl) (And.intro (R6.cell 2 1 rfl rfl) (And.intro (R6.cell 2 2 rfl rfl) (R6.cell 2 3 rfl rfl)))
        refine hK.out _ _ (fun _ => s6) ?_
        clear hK K
        try simp only [Act.put, List.setIfInBounds_toArray, List.set_cons_zero, List.set_cons_succ]
        generalize (w5.alloc (.cells #[.bool false, .slice none 0 0] 24)) = w6 at *
        refine wpAnyL_one (i := 12) (by kernel_rfl) rfl (fun K hK => ?_)
        go_simp
        have R7 := R6.alloc 24 #[.bool false, .slice none 0 0] (g := w6.heap.size) rfl rfl
        have s7 := And.intro (R7.cell 3 0 rfl rfl) (And.intro (R7.cell 3 1 rfl rfl) (And.intro (R7.cell 3 2 rfl rfl) (R7.cell 3 3 rfl rfl)))
        refine hK.out _ _ (fun _ => s7) ?_
        clear hK K
        try simp only [Act.put, List.setIfInBounds_toArray, List.set_cons_zero, List.set_cons_succ]
        generalize (w6.alloc (.cells #[.bool false, .slice none 0 0] 24)) = w7 at *
        refine wpAnyL_one (i := 13) (by kernel_rfl) rfl (fun K hK => ?_)
        have fc0 := R7.cell 1 0 rfl rfl
        have ff0 := R7.frozen 1 0 rfl
        have fc1 := R7.cell 1 1 rfl rfl
        have ff1 := R7.frozen 1 1 rfl
        go_simp
        clear fc0 ff0 fc1 ff1
        have R8 := R7.st2 1 (.bool b_q) (.slice A_q n_q n_q) rfl rfl rfl
        have s8 := And.intro (R8.cell 3 0 rfl rfl) (And.intro (R8.cell 3 1 rfl rfl) (And.intro (R8.cell 3 2 rfl rfl) (R8.cell 3 3 rfl rfl)))
        refine hK.out _ _ (fun _ => s8) ?_
        clear hK K
        try simp only [Act.put, List.setIfInBounds_toArray, List.set_cons_zero, List.set_cons_succ]
        generalize ((w7.setCell ⟨w5.heap.size, 0, none⟩ (.bool b_q)).setCell ⟨w5.heap.size, 1, none⟩ (.slice A_q n_q n_q)) = w8 at *
        refine wpAnyL_one (i := 14) (by kernel_rfl) rfl (fun K hK => ?_)
        have fc0 := R8.cell 0 0 rfl rfl
        have ff0 := R8.frozen 0 0 rfl
        have fc1 := R8.cell 0 1 rfl rfl
        have ff1 := R8.frozen 0 1 rfl
        go_simp
        clear fc0 ff0 fc1 ff1
        have R9 := R8.st2 0 (.bool b_u) (.slice A_u n_u n_u) rfl rfl rfl
        have s9 := And.intro (R9.cell 3 0 rfl rfl) (And.intro (R9.cell 3 1 rfl rfl) (And.intro (R9.cell 3 2 rfl rfl) (R9.cell 3 3 rfl rfl)))
        refine hK.out _ _ (fun _ => s9) ?_
        clear hK K
        try simp only [Act.put, List.setIfInBounds_toArray, List.set_cons_zero, List.set_cons_succ]
        generalize ((w8.setCell ⟨w6.heap.size, 0, none⟩ (.bool b_u)).setCell ⟨w6.heap.size, 1, none⟩ (.slice A_u n_u n_u)) = w9 at *
        refine wpAnyL_one (i := 15) (by kernel_rfl) rfl (fun K hK => ?_)
        go_simp
        refine hK.out _ _ (fun _ => s9) ?_
        clear hK K
        try simp only [Act.put, List.setIfInBounds_toArray, List.set_cons_zero, List.set_cons_succ]
        refine wpAnyL_done (by kernel_rfl) ?_ _
        have k10q0 := R9.cell 1 0 rfl rfl
        have k10q1 := R9.cell 1 1 rfl rfl
        go_wp2_with fail
        clear k10q0 k10q1
        refine (zsub (K := k + 5) (ZIs.nil_ _ none 0 0) (R9.z 1 rfl) (by omega) (by omega) (by omega)).mono ?_; rintro e w10 ⟨b_p, A_p, n_p, rfl, z_p, hb10⟩
        have R10 := ((R9.below hb10).add z_p)
        have HL := Lib.hid (Nat.lt_of_le_of_lt (qceil_abs r) ((R10.z 5 rfl).lt))
        have zr0 := R10.cell 2 0 rfl rfl
        have zr1 := R10.cell 2 1 rfl rfl
        have zfr0 := R10.frozen 2 0 rfl
        have zfr1 := R10.frozen 2 1 rfl
        go_wp2_with fail
        have R9_ := R10.st2 2 (.bool b_p) (.slice A_p n_p n_p) rfl rfl rfl
        refine bodyPost_ret (results_cell_row rfl _ _ (w.heap.size + 1) 24 #[.bool b_p, .slice A_p n_p n_p] (0, 0) _ rfl (R9_.b 2 rfl).is Tryz.underlying24 rfl (by kernel_rfl)) rfl ?_
        exact ⟨_, _, _, rfl, ((R9_.z 0 rfl).as (qceil_of r)).tight HL.out, R9_.bel⟩
      · go_simp
        have R11 := R5.alloc 24 #[.bool false, .slice none 0 0] (g := w5.heap.size) rfl rfl
        have s11 := And.intro (R11.cell 2 0 rfl rfl) (And.intro (R11.cell 2 1 rfl rfl) (And.intro (R11.cell 2 2 rfl rfl) (R11.cell 2 3 rfl rfl)))
        refine hK.out _ _ (fun _ => s11) ?_
        clear hK K
        try simp only [Act.put, List.setIfInBounds_toArray, List.set_cons_zero, List.set_cons_succ]
        generalize (w5.alloc (.cells #[.bool false, .slice none 0 0] 24)) = w11 at *
        refine wpAnyL_one (i := 11) (by kernel_rfl) rfl (fun K hK => ?_)
        go_simp
        have R12 := R11.alloc 24 #[.bool false, .slice none 0 0] (g := w11.heap.size) rfl rfl
        have s12 := And.intro (R12.cell 3 0 rfl rfl) (And.intro (R12.cell 3 1 rfl rfl) (And.intro (R12.cell 3 2 rfl rfl) (R12.cell 3 3 rfl rfl)))
        refine hK.out _ _ (fun _ => s12) ?_
        clear hK K
        try simp only [Act.put, List.setIfInBounds_toArray, List.set_cons_zero, List.set_cons_succ]
        generalize (w11.alloc (.cells #[.bool false, .slice none 0 0] 24)) = w12 at *
        refine wpAnyL_one (i := 13) (by kernel_rfl) rfl (fun K hK => ?_)
        have fc0 := R12.cell 0 0 rfl rfl
        have ff0 := R12.frozen 0 0 rfl
        have fc1 := R12.cell 0 1 rfl rfl
        have ff1 := R12.frozen 0 1 rfl
        go_simp
        clear fc0 ff0 fc1 ff1
        have R13 := R12.st2 0 (.bool b_q) (.slice A_q n_q n_q) rfl rfl rfl
        have s13 := And.intro (R13.cell 3 0 rfl rfl) (And.intro (R13.cell 3 1 rfl rfl) (And.intro (R13.cell 3 2 rfl rfl) (R13.cell 3 3 rfl rfl)))
        refine hK.out _ _ (fun _ => s13) ?_
        clear hK K
        try simp only [Act.put, List.setIfInBounds_toArray, List.set_cons_zero, List.set_cons_succ]
        generalize ((w12.setCell ⟨w11.heap.size, 0, none⟩ (.bool b_q)).setCell ⟨w11.heap.size, 1, none⟩ (.slice A_q n_q n_q)) = w13 at *
        refine wpAnyL_one (i := 14) (by kernel_rfl) rfl (fun K hK => ?_)
        have fc0 := R13.cell 1 0 rfl rfl
        have ff0 := R13.frozen 1 0 rfl
        have fc1 := R13.cell 1 1 rfl rfl
        have ff1 := R13.frozen 1 1 rfl
        go_simp
        clear fc0 ff0 fc1 ff1
        have R14 := R13.st2 1 (.bool b_u) (.slice A_u n_u n_u) rfl rfl rfl
        have s14 := And.intro (R14.cell 3 0 rfl rfl) (And.intro (R14.cell 3 1 rfl rfl) (And.intro (R14.cell 3 2 rfl rfl) (R14.cell 3 3 rfl rfl)))
        refine hK.out _ _ (fun _ => s14) ?_
        clear hK K
        try simp only [Act.put, List.setIfInBounds_toArray, List.set_cons_zero, List.set_cons_succ]
        generalize ((w13.setCell ⟨w5.heap.size, 0, none⟩ (.bool b_u)).setCell ⟨w5.heap.size, 1, none⟩ (.slice A_u n_u n_u)) = w14 at *
        refine wpAnyL_one (i := 15) (by kernel_rfl) rfl (fun K hK => ?_)
        go_simp
        refine hK.out _ _ (fun _ => s14) ?_
        clear hK K
        try simp only [Act.put, List.setIfInBounds_toArray, List.set_cons_zero, List.set_cons_succ]
        refine wpAnyL_done (by kernel_rfl) ?_ _
        have k15q0 := R14.cell 0 0 rfl rfl
        have k15q1 := R14.cell 0 1 rfl rfl
        go_wp2_with fail
        clear k15q0 k15q1
        refine (zsub (K := k + 5) (ZIs.nil_ _ none 0 0) (R14.z 1 rfl) (by omega) (by omega) (by omega)).mono ?_; rintro e w15 ⟨b_p, A_p, n_p, rfl, z_p, hb15⟩
        have R15 := ((R14.below hb15).add z_p)
        have HL := Lib.hid (Nat.lt_of_le_of_lt (qceil_abs r) ((R15.z 5 rfl).lt))
        have zr0 := R15.cell 2 0 rfl rfl
        have zr1 := R15.cell 2 1 rfl rfl
        have zfr0 := R15.frozen 2 0 rfl
        have zfr1 := R15.frozen 2 1 rfl
        go_wp2_with fail
        have R9_ := R15.st2 2 (.bool b_p) (.slice A_p n_p n_p) rfl rfl rfl
        refine bodyPost_ret (results_cell_row rfl _ _ (w.heap.size + 1) 24 #[.bool b_p, .slice A_p n_p n_p] (0, 0) _ rfl (R9_.b 2 rfl).is Tryz.underlying24 rfl (by kernel_rfl)) rfl ?_
        exact ⟨_, _, _, rfl, ((R9_.z 0 rfl).as (qceil_of r)).tight HL.out, R9_.bel⟩
    · go_simp
      have R16 := R4.alloc 24 #[.bool false, .slice none 0 0] (g := w4.heap.size) rfl rfl
      have s16 := And.intro (R16.cell 2 0 rfl rfl) (And.intro (R16.cell 2 1 rfl rfl) (And.intro (R16.cell 2 2 rfl rfl) (R16.cell 2 3 rfl rfl)))
      refine hK.out _ _ (fun _ => s16) ?_
      clear hK K
      try simp only [Act.put, List.setIfInBounds_toArray, List.set_cons_zero, List.set_cons_succ]
      generalize (w4.alloc (.cells #[.bool false, .slice none 0 0] 24)) = w16 at *
      refine wpAnyL_all (rs := [6, 12]) (by kernel_rfl) (by simp) (StepsL.cons (i := 6) rfl (fun K hK => ?_) (StepsL.cons (i := 12) rfl (fun K hK => ?_) StepsL.nil))
      · go_simp
        refine (zdiv (K := k + 4) (L := k + 2) (R16.z 0 rfl) (R16.z 1 rfl) (by omega) (by omega) (Int.ne_of_gt (qden_pos r)) (by omega) (by omega)).mono ?_; rintro e w17 ⟨b_q, A_q, n_q, b_u, A_u, n_u, rfl, z_q, z_u, hb17⟩
        have R17 := (((R16.below hb17).add z_q).add z_u)
        have s17 := And.intro (R17.cell 2 0 rfl rfl) (And.intro (R17.cell 2 1 rfl rfl) (And.intro (R17.cell 2 2 rfl rfl) (R17.cell 2 3 rfl rfl)))
        go_wp2_with fail
        refine hK.out _ _ (fun _ => s17) ?_
        clear hK K
        try simp only [Act.put, List.setIfInBounds_toArray, List.set_cons_zero, List.set_cons_succ]
        refine wpAnyL_take (i := 7) (v := ?_) rfl (by kernel_rfl) (by kernel_rfl) (by kernel_rfl) (by kernel_rfl) (by kernel_rfl) (fun _ _ _ h => h) (Or.inl ⟨by kernel_rfl, ?_⟩) s17 ?_
        rotate_left
        · rintro w' ⟨h1, h2, h3, h4⟩; go_simp; (try with_reducible rfl)
        try simp only [Act.put, List.setIfInBounds_toArray, List.set_cons_zero, List.set_cons_succ]
        refine wpAnyL_take (i := 8) (v := ?_) rfl (by kernel_rfl) (by kernel_rfl) (by kernel_rfl) (by kernel_rfl) (by kernel_rfl) (fun _ _ _ h => h) (Or.inl ⟨by kernel_rfl, ?_⟩) s17 ?_
        rotate_left
        · rintro w' ⟨h1, h2, h3, h4⟩; go_simp; (try with_reducible rfl)
        try simp only [Act.put, List.setIfInBounds_toArray, List.set_cons_zero, List.set_cons_succ]
        refine wpAnyL_take (i := 9) (v := ?_) rfl (by kernel_rfl) (by kernel_rfl) (by kernel_rfl) (by kernel_rfl) (by kernel_rfl) (fun _ _ _ h => h) (Or.inl ⟨by kernel_rfl, ?_⟩) s17 ?_
        rotate_left
        · rintro w' ⟨h1, h2, h3, h4⟩; go_simp; (try with_reducible rfl)
        try simp only [Act.put, List.setIfInBounds_toArray, List.set_cons_zero, List.set_cons_succ]
        refine wpAnyL_take (i := 10) (v := ?_) rfl (by kernel_rfl) (by kernel_rfl) (by kernel_rfl) (by kernel_rfl) (by kernel_rfl) (fun _ _ _ h => h) (Or.inl ⟨by kernel_rfl, ?_⟩) s17 ?_
        rotate_left
        · rintro w' ⟨h1, h2, h3, h4⟩; go_simp; (try with_reducible rfl)
        try simp only [Act.put, List.setIfInBounds_toArray, List.set_cons_zero, List.set_cons_succ]
        refine wpAnyL_one (i := 12) (by kernel_rfl) rfl (fun K hK => ?_)
        go_simp
        have R18 := R17.alloc 24 #[.bool false, .slice none 0 0] (g := w17.heap.size) rfl rfl
        have s18 := And.intro (R18.cell 3 0 rfl rfl) (And.intro (R18.cell 3 1 rfl rfl) (And.intro (R18.cell 3 2 rfl rfl) (R18.cell 3 3 rfl rfl)))
        refine hK.out _ _ (fun _ => s18) ?_
        clear hK K
        try simp only [Act.put, List.setIfInBounds_toArray, List.set_cons_zero, List.set_cons_succ]
        generalize (w17.alloc (.cells #[.bool false, .slice none 0 0] 24)) = w18 at *
        refine wpAnyL_one (i := 13) (by kernel_rfl) rfl (fun K hK => ?_)
        have fc0 := R18.cell 1 0 rfl rfl
        have ff0 := R18.frozen 1 0 rfl
        have fc1 := R18.cell 1 1 rfl rfl
        have ff1 := R18.frozen 1 1 rfl
        go_simp
        clear fc0 ff0 fc1 ff1
        have R19 := R18.st2 1 (.bool b_q) (.slice A_q n_q n_q) rfl rfl rfl
        have s19 := And.intro (R19.cell 3 0 rfl rfl) (And.intro (R19.cell 3 1 rfl rfl) (And.intro (R19.cell 3 2 rfl rfl) (R19.cell 3 3 rfl rfl)))
        refine hK.out _ _ (fun _ => s19) ?_
        clear hK K
        try simp only [Act.put, List.setIfInBounds_toArray, List.set_cons_zero, List.set_cons_succ]
        generalize ((w18.setCell ⟨w4.heap.size, 0, none⟩ (.bool b_q)).setCell ⟨w4.heap.size, 1, none⟩ (.slice A_q n_q n_q)) = w19 at *
        refine wpAnyL_one (i := 14) (by kernel_rfl) rfl (fun K hK => ?_)
        have fc0 := R19.cell 0 0 rfl rfl
        have ff0 := R19.frozen 0 0 rfl
        have fc1 := R19.cell 0 1 rfl rfl
        have ff1 := R19.frozen 0 1 rfl
        go_simp
        clear fc0 ff0 fc1 ff1
        have R20 := R19.st2 0 (.bool b_u) (.slice A_u n_u n_u) rfl rfl rfl
        have s20 := And.intro (R20.cell 3 0 rfl rfl) (And.intro (R20.cell 3 1 rfl rfl) (And.intro (R20.cell 3 2 rfl rfl) (R20.cell 3 3 rfl rfl)))
        refine hK.out _ _ (fun _ => s20) ?_
        clear hK K
        try simp only [Act.put, List.setIfInBounds_toArray, List.set_cons_zero, List.set_cons_succ]
        generalize ((w19.setCell ⟨w17.heap.size, 0, none⟩ (.bool b_u)).setCell ⟨w17.heap.size, 1, none⟩ (.slice A_u n_u n_u)) = w20 at *
        refine wpAnyL_one (i := 15) (by kernel_rfl) rfl (fun K hK => ?_)
        go_simp
        refine hK.out _ _ (fun _ => s20) ?_
        clear hK K
        try simp only [Act.put, List.setIfInBounds_toArray, List.set_cons_zero, List.set_cons_succ]
        refine wpAnyL_done (by kernel_rfl) ?_ _
        have k21q0 := R20.cell 1 0 rfl rfl
        have k21q1 := R20.cell 1 1 rfl rfl
        go_wp2_with fail
        clear k21q0 k21q1
        refine (zsub (K := k + 5) (ZIs.nil_ _ none 0 0) (R20.z 1 rfl) (by omega) (by omega) (by omega)).mono ?_; rintro e w21 ⟨b_p, A_p, n_p, rfl, z_p, hb21⟩
        have R21 := ((R20.below hb21).add z_p)
        have HL := Lib.hid (Nat.lt_of_le_of_lt (qceil_abs r) ((R21.z 5 rfl).lt))
        have zr0 := R21.cell 2 0 rfl rfl
        have zr1 := R21.cell 2 1 rfl rfl
        have zfr0 := R21.frozen 2 0 rfl
        have zfr1 := R21.frozen 2 1 rfl
        go_wp2_with fail
        have R9_ := R21.st2 2 (.bool b_p) (.slice A_p n_p n_p) rfl rfl rfl
        refine bodyPost_ret (results_cell_row rfl _ _ (w.heap.size + 1) 24 #[.bool b_p, .slice A_p n_p n_p] (0, 0) _ rfl (R9_.b 2 rfl).is Tryz.underlying24 rfl (by kernel_rfl)) rfl ?_
        exact ⟨_, _, _, rfl, ((R9_.z 0 rfl).as (qceil_of r)).tight HL.out, R9_.bel⟩
      · go_simp
        have R22 := R16.alloc 24 #[.bool false, .slice none 0 0] (g := w16.heap.size) rfl rfl
        have s22 := And.intro (R22.cell 3 0 rfl rfl) (And.intro (R22.cell 3 1 rfl rfl) (And.intro (R22.cell 3 2 rfl rfl) (R22.cell 3 3 rfl rfl)))
        refine hK.out _ _ (fun _ => s22) ?_
        clear hK K
        try simp only [Act.put, List.setIfInBounds_toArray, List.set_cons_zero, List.set_cons_succ]
        generalize (w16.alloc (.cells #[.bool false, .slice none 0 0] 24)) = w22 at *
        refine wpAnyL_one (i := 6) (by kernel_rfl) rfl (fun K hK => ?_)
        go_simp
        refine (zdiv (K := k + 4) (L := k + 2) (R22.z 0 rfl) (R22.z 1 rfl) (by omega) (by omega) (Int.ne_of_gt (qden_pos r)) (by omega) (by omega)).mono ?_; rintro e w23 ⟨b_q, A_q, n_q, b_u, A_u, n_u, rfl, z_q, z_u, hb23⟩
        have R23 := (((R22.below hb23).add z_q).add z_u)
        have s23 := And.intro (R23.cell 3 0 rfl rfl) (And.intro (R23.cell 3 1 rfl rfl) (And.intro (R23.cell 3 2 rfl rfl) (R23.cell 3 3 rfl rfl)))
        go_wp2_with fail
        refine hK.out _ _ (fun _ => s23) ?_
        clear hK K
        try simp only [Act.put, List.setIfInBounds_toArray, List.set_cons_zero, List.set_cons_succ]
        refine wpAnyL_take (i := 7) (v := ?_) rfl (by kernel_rfl) (by kernel_rfl) (by kernel_rfl) (by kernel_rfl) (by kernel_rfl) (fun _ _ _ h => h) (Or.inl ⟨by kernel_rfl, ?_⟩) s23 ?_
        rotate_left
        · rintro w' ⟨h1, h2, h3, h4⟩; go_simp; (try with_reducible rfl)
        try simp only [Act.put, List.setIfInBounds_toArray, List.set_cons_zero, List.set_cons_succ]
        refine wpAnyL_take (i := 8) (v := ?_) rfl (by kernel_rfl) (by kernel_rfl) (by kernel_rfl) (by kernel_rfl) (by kernel_rfl) (fun _ _ _ h => h) (Or.inl ⟨by kernel_rfl, ?_⟩) s23 ?_
        rotate_left
        · rintro w' ⟨h1, h2, h3, h4⟩; go_simp; (try with_reducible rfl)
        try simp only [Act.put, List.setIfInBounds_toArray, List.set_cons_zero, List.set_cons_succ]
        refine wpAnyL_take (i := 9) (v := ?_) rfl (by kernel_rfl) (by kernel_rfl) (by kernel_rfl) (by kernel_rfl) (by kernel_rfl) (fun _ _ _ h => h) (Or.inl ⟨by kernel_rfl, ?_⟩) s23 ?_
        rotate_left
        · rintro w' ⟨h1, h2, h3, h4⟩; go_simp; (try with_reducible rfl)
        try simp only [Act.put, List.setIfInBounds_toArray, List.set_cons_zero, List.set_cons_succ]
        refine wpAnyL_take (i := 10) (v := ?_) rfl (by kernel_rfl) (by kernel_rfl) (by kernel_rfl) (by kernel_rfl) (by kernel_rfl) (fun _ _ _ h => h) (Or.inl ⟨by kernel_rfl, ?_⟩) s23 ?_
        rotate_left
        · rintro w' ⟨h1, h2, h3, h4⟩; go_simp; (try with_reducible rfl)
        try simp only [Act.put, List.setIfInBounds_toArray, List.set_cons_zero, List.set_cons_succ]
        refine wpAnyL_one (i := 13) (by kernel_rfl) rfl (fun K hK => ?_)
        have fc0 := R23.cell 1 0 rfl rfl
        have ff0 := R23.frozen 1 0 rfl
        have fc1 := R23.cell 1 1 rfl rfl
        have ff1 := R23.frozen 1 1 rfl
        go_simp
        clear fc0 ff0 fc1 ff1
        have R24 := R23.st2 1 (.bool b_q) (.slice A_q n_q n_q) rfl rfl rfl
        have s24 := And.intro (R24.cell 3 0 rfl rfl) (And.intro (R24.cell 3 1 rfl rfl) (And.intro (R24.cell 3 2 rfl rfl) (R24.cell 3 3 rfl rfl)))
        refine hK.out _ _ (fun _ => s24) ?_
        clear hK K
        try simp only [Act.put, List.setIfInBounds_toArray, List.set_cons_zero, List.set_cons_succ]
        generalize ((w23.setCell ⟨w4.heap.size, 0, none⟩ (.bool b_q)).setCell ⟨w4.heap.size, 1, none⟩ (.slice A_q n_q n_q)) = w24 at *
        refine wpAnyL_one (i := 14) (by kernel_rfl) rfl (fun K hK => ?_)
        have fc0 := R24.cell 0 0 rfl rfl
        have ff0 := R24.frozen 0 0 rfl
        have fc1 := R24.cell 0 1 rfl rfl
        have ff1 := R24.frozen 0 1 rfl
        go_simp
        clear fc0 ff0 fc1 ff1
        have R25 := R24.st2 0 (.bool b_u) (.slice A_u n_u n_u) rfl rfl rfl
        have s25 := And.intro (R25.cell 3 0 rfl rfl) (And.intro (R25.cell 3 1 rfl rfl) (And.intro (R25.cell 3 2 rfl rfl) (R25.cell 3 3 rfl rfl)))
        refine hK.out _ _ (fun _ => s25) ?_
        clear hK K
        try simp only [Act.put, List.setIfInBounds_toArray, List.set_cons_zero, List.set_cons_succ]
        generalize ((w24.setCell ⟨w16.heap.size, 0, none⟩ (.bool b_u)).setCell ⟨w16.heap.size, 1, none⟩ (.slice A_u n_u n_u)) = w25 at *
        refine wpAnyL_one (i := 15) (by kernel_rfl) rfl (fun K hK => ?_)
        go_simp
        refine hK.out _ _ (fun _ => s25) ?_
        clear hK K
        try simp only [Act.put, List.setIfInBounds_toArray, List.set_cons_zero, List.set_cons_succ]
        refine wpAnyL_done (by kernel_rfl) ?_ _
        have k26q0 := R25.cell 1 0 rfl rfl
        have k26q1 := R25.cell 1 1 rfl rfl
        go_wp2_with fail
        clear k26q0 k26q1
        refine (zsub (K := k + 5) (ZIs.nil_ _ none 0 0) (R25.z 1 rfl) (by omega) (by omega) (by omega)).mono ?_; rintro e w26 ⟨b_p, A_p, n_p, rfl, z_p, hb26⟩
        have R26 := ((R25.below hb26).add z_p)
        have HL := Lib.hid (Nat.lt_of_le_of_lt (qceil_abs r) ((R26.z 5 rfl).lt))
        have zr0 := R26.cell 2 0 rfl rfl
        have zr1 := R26.cell 2 1 rfl rfl
        have zfr0 := R26.frozen 2 0 rfl
        have zfr1 := R26.frozen 2 1 rfl
        go_wp2_with fail
        have R9_ := R26.st2 2 (.bool b_p) (.slice A_p n_p n_p) rfl rfl rfl
        refine bodyPost_ret (results_cell_row rfl _ _ (w.heap.size + 1) 24 #[.bool b_p, .slice A_p n_p n_p] (0, 0) _ rfl (R9_.b 2 rfl).is Tryz.underlying24 rfl (by kernel_rfl)) rfl ?_
        exact ⟨_, _, _, rfl, ((R9_.z 0 rfl).as (qceil_of r)).tight HL.out, R9_.bel⟩
    · go_simp
      have R27 := R4.alloc 24 #[.bool false, .slice none 0 0] (g := w4.heap.size) rfl rfl
      have s27 := And.intro (R27.cell 2 0 rfl rfl) (And.intro (R27.cell 2 1 rfl rfl) (And.intro (R27.cell 2 2 rfl rfl) (R27.cell 2 3 rfl rfl)))
      refine hK.out _ _ (fun _ => s27) ?_
      clear hK K
      try simp only [Act.put, List.setIfInBounds_toArray, List.set_cons_zero, List.set_cons_succ]
      generalize (w4.alloc (.cells #[.bool false, .slice none 0 0] 24)) = w27 at *
      refine wpAnyL_all (rs := [6, 11]) (by kernel_rfl) (by simp) (StepsL.cons (i := 6) rfl (fun K hK => ?_) (StepsL.cons (i := 11) rfl (fun K hK => ?_) StepsL.nil))
      · go_simp
        refine (zdiv (K := k + 4) (L := k + 2) (R27.z 0 rfl) (R27.z 1 rfl) (by omega) (by omega) (Int.ne_of_gt (qden_pos r)) (by omega) (by omega)).mono ?_; rintro e w28 ⟨b_q, A_q, n_q, b_u, A_u, n_u, rfl, z_q, z_u, hb28⟩
        have R28 := (((R27.below hb28).add z_q).add z_u)
        have s28 := And.intro (R28.cell 2 0 rfl rfl) (And.intro (R28.cell 2 1 rfl rfl) (And.intro (R28.cell 2 2 rfl rfl) (R28.cell 2 3 rfl rfl)))
        go_wp2_with fail
        refine hK.out _ _ (fun _ => s28) ?_
        clear hK K
        try simp only [Act.put, List.setIfInBounds_toArray, List.set_cons_zero, List.set_cons_succ]
        refine wpAnyL_take (i := 7) (v := ?_) rfl (by kernel_rfl) (by kernel_rfl) (by kernel_rfl) (by kernel_rfl) (by kernel_rfl) (fun _ _ _ h => h) (Or.inl ⟨by kernel_rfl, ?_⟩) s28 ?_
        rotate_left
        · rintro w' ⟨h1, h2, h3, h4⟩; go_simp; (try with_reducible rfl)
        try simp only [Act.put, List.setIfInBounds_toArray, List.set_cons_zero, List.set_cons_succ]
        refine wpAnyL_take (i := 8) (v := ?_) rfl (by kernel_rfl) (by kernel_rfl) (by kernel_rfl) (by kernel_rfl) (by kernel_rfl) (fun _ _ _ h => h) (Or.inl ⟨by kernel_rfl, ?_⟩) s28 ?_
        rotate_left
        · rintro w' ⟨h1, h2, h3, h4⟩; go_simp; (try with_reducible rfl)
        try simp only [Act.put, List.setIfInBounds_toArray, List.set_cons_zero, List.set_cons_succ]
        refine wpAnyL_take (i := 9) (v := ?_) rfl (by kernel_rfl) (by kernel_rfl) (by kernel_rfl) (by kernel_rfl) (by kernel_rfl) (fun _ _ _ h => h) (Or.inl ⟨by kernel_rfl, ?_⟩) s28 ?_
        rotate_left
        · rintro w' ⟨h1, h2, h3, h4⟩; go_simp; (try with_reducible rfl)
        try simp only [Act.put, List.setIfInBounds_toArray, List.set_cons_zero, List.set_cons_succ]
        refine wpAnyL_take (i := 10) (v := ?_) rfl (by kernel_rfl) (by kernel_rfl) (by kernel_rfl) (by kernel_rfl) (by kernel_rfl) (fun _ _ _ h => h) (Or.inl ⟨by kernel_rfl, ?_⟩) s28 ?_
        rotate_left
        · rintro w' ⟨h1, h2, h3, h4⟩; go_simp; (try with_reducible rfl)
        try simp only [Act.put, List.setIfInBounds_toArray, List.set_cons_zero, List.set_cons_succ]
        refine wpAnyL_one (i := 11) (by kernel_rfl) rfl (fun K hK => ?_)
        go_simp
        have R29 := R28.alloc 24 #[.bool false, .slice none 0 0] (g := w28.heap.size) rfl rfl
        have s29 := And.intro (R29.cell 3 0 rfl rfl) (And.intro (R29.cell 3 1 rfl rfl) (And.intro (R29.cell 3 2 rfl rfl) (R29.cell 3 3 rfl rfl)))
        refine hK.out _ _ (fun _ => s29) ?_
        clear hK K
        try simp only [Act.put, List.setIfInBounds_toArray, List.set_cons_zero, List.set_cons_succ]
        generalize (w28.alloc (.cells #[.bool false, .slice none 0 0] 24)) = w29 at *
        refine wpAnyL_one (i := 13) (by kernel_rfl) rfl (fun K hK => ?_)
        have fc0 := R29.cell 0 0 rfl rfl
        have ff0 := R29.frozen 0 0 rfl
        have fc1 := R29.cell 0 1 rfl rfl
        have ff1 := R29.frozen 0 1 rfl
        go_simp
        clear fc0 ff0 fc1 ff1
        have R30 := R29.st2 0 (.bool b_q) (.slice A_q n_q n_q) rfl rfl rfl
        have s30 := And.intro (R30.cell 3 0 rfl rfl) (And.intro (R30.cell 3 1 rfl rfl) (And.intro (R30.cell 3 2 rfl rfl) (R30.cell 3 3 rfl rfl)))
        refine hK.out _ _ (fun _ => s30) ?_
        clear hK K
        try simp only [Act.put, List.setIfInBounds_toArray, List.set_cons_zero, List.set_cons_succ]
        generalize ((w29.setCell ⟨w28.heap.size, 0, none⟩ (.bool b_q)).setCell ⟨w28.heap.size, 1, none⟩ (.slice A_q n_q n_q)) = w30 at *
        refine wpAnyL_one (i := 14) (by kernel_rfl) rfl (fun K hK => ?_)
        have fc0 := R30.cell 1 0 rfl rfl
        have ff0 := R30.frozen 1 0 rfl
        have fc1 := R30.cell 1 1 rfl rfl
        have ff1 := R30.frozen 1 1 rfl
        go_simp
        clear fc0 ff0 fc1 ff1
        have R31 := R30.st2 1 (.bool b_u) (.slice A_u n_u n_u) rfl rfl rfl
        have s31 := And.intro (R31.cell 3 0 rfl rfl) (And.intro (R31.cell 3 1 rfl rfl) (And.intro (R31.cell 3 2 rfl rfl) (R31.cell 3 3 rfl rfl)))
        refine hK.out _ _ (fun _ => s31) ?_
        clear hK K
        try simp only [Act.put, List.setIfInBounds_toArray, List.set_cons_zero, List.set_cons_succ]
        generalize ((w30.setCell ⟨w4.heap.size, 0, none⟩ (.bool b_u)).setCell ⟨w4.heap.size, 1, none⟩ (.slice A_u n_u n_u)) = w31 at *
        refine wpAnyL_one (i := 15) (by kernel_rfl) rfl (fun K hK => ?_)
        go_simp
        refine hK.out _ _ (fun _ => s31) ?_
        clear hK K
        try simp only [Act.put, List.setIfInBounds_toArray, List.set_cons_zero, List.set_cons_succ]
        refine wpAnyL_done (by kernel_rfl) ?_ _
        have k32q0 := R31.cell 0 0 rfl rfl
        have k32q1 := R31.cell 0 1 rfl rfl
        go_wp2_with fail
        clear k32q0 k32q1
        refine (zsub (K := k + 5) (ZIs.nil_ _ none 0 0) (R31.z 1 rfl) (by omega) (by omega) (by omega)).mono ?_; rintro e w32 ⟨b_p, A_p, n_p, rfl, z_p, hb32⟩
        have R32 := ((R31.below hb32).add z_p)
        have HL := Lib.hid (Nat.lt_of_le_of_lt (qceil_abs r) ((R32.z 5 rfl).lt))
        have zr0 := R32.cell 2 0 rfl rfl
        have zr1 := R32.cell 2 1 rfl rfl
        have zfr0 := R32.frozen 2 0 rfl
        have zfr1 := R32.frozen 2 1 rfl
        go_wp2_with fail
        have R9_ := R32.st2 2 (.bool b_p) (.slice A_p n_p n_p) rfl rfl rfl
        refine bodyPost_ret (results_cell_row rfl _ _ (w.heap.size + 1) 24 #[.bool b_p, .slice A_p n_p n_p] (0, 0) _ rfl (R9_.b 2 rfl).is Tryz.underlying24 rfl (by kernel_rfl)) rfl ?_
        exact ⟨_, _, _, rfl, ((R9_.z 0 rfl).as (qceil_of r)).tight HL.out, R9_.bel⟩
      · go_simp
        have R33 := R27.alloc 24 #[.bool false, .slice none 0 0] (g := w27.heap.size) rfl rfl
        have s33 := And.intro (R33.cell 3 0 rfl rfl) (And.intro (R33.cell 3 1 rfl rfl) (And.intro (R33.cell 3 2 rfl rfl) (R33.cell 3 3 rfl rfl)))
        refine hK.out _ _ (fun _ => s33) ?_
        clear hK K
        try simp only [Act.put, List.setIfInBounds_toArray, List.set_cons_zero, List.set_cons_succ]
        generalize (w27.alloc (.cells #[.bool false, .slice none 0 0] 24)) = w33 at *
        refine wpAnyL_one (i := 6) (by kernel_rfl) rfl (fun K hK => ?_)
        go_simp
        refine (zdiv (K := k + 4) (L := k + 2) (R33.z 0 rfl) (R33.z 1 rfl) (by omega) (by omega) (Int.ne_of_gt (qden_pos r)) (by omega) (by omega)).mono ?_; rintro e w34 ⟨b_q, A_q, n_q, b_u, A_u, n_u, rfl, z_q, z_u, hb34⟩
        have R34 := (((R33.below hb34).add z_q).add z_u)
        have s34 := And.intro (R34.cell 3 0 rfl rfl) (And.intro (R34.cell 3 1 rfl rfl) (And.intro (R34.cell 3 2 rfl rfl) (R34.cell 3 3 rfl rfl)))
        go_wp2_with fail
        refine hK.out _ _ (fun _ => s34) ?_
        clear hK K
        try simp only [Act.put, List.setIfInBounds_toArray, List.set_cons_zero, List.set_cons_succ]
        refine wpAnyL_take (i := 7) (v := ?_) rfl (by kernel_rfl) (by kernel_rfl) (by kernel_rfl) (by kernel_rfl) (by kernel_rfl) (fun _ _ _ h => h) (Or.inl ⟨by kernel_rfl, ?_⟩) s34 ?_
        rotate_left
        · rintro w' ⟨h1, h2, h3, h4⟩; go_simp; (try with_reducible rfl)
        try simp only [Act.put, List.setIfInBounds_toArray, List.set_cons_zero, List.set_cons_succ]
        refine wpAnyL_take (i := 8) (v := ?_) rfl (by kernel_rfl) (by kernel_rfl) (by kernel_rfl) (by kernel_rfl) (by kernel_rfl) (fun _ _ _ h => h) (Or.inl ⟨by kernel_rfl, ?_⟩) s34 ?_
        rotate_left
        · rintro w' ⟨h1, h2, h3, h4⟩; go_simp; (try with_reducible rfl)
        try simp only [Act.put, List.setIfInBounds_toArray, List.set_cons_zero, List.set_cons_succ]
        refine wpAnyL_take (i := 9) (v := ?_) rfl (by kernel_rfl) (by kernel_rfl) (by kernel_rfl) (by kernel_rfl) (by kernel_rfl) (fun _ _ _ h => h) (Or.inl ⟨by kernel_rfl, ?_⟩) s34 ?_
        rotate_left
        · rintro w' ⟨h1, h2, h3, h4⟩; go_simp; (try with_reducible rfl)
        try simp only [Act.put, List.setIfInBounds_toArray, List.set_cons_zero, List.set_cons_succ]
        refine wpAnyL_take (i := 10) (v := ?_) rfl (by kernel_rfl) (by kernel_rfl) (by kernel_rfl) (by kernel_rfl) (by kernel_rfl) (fun _ _ _ h => h) (Or.inl ⟨by kernel_rfl, ?_⟩) s34 ?_
        rotate_left
        · rintro w' ⟨h1, h2, h3, h4⟩; go_simp; (try with_reducible rfl)
        try simp only [Act.put, List.setIfInBounds_toArray, List.set_cons_zero, List.set_cons_succ]
        refine wpAnyL_one (i := 13) (by kernel_rfl) rfl (fun K hK => ?_)
        have fc0 := R34.cell 0 0 rfl rfl
        have ff0 := R34.frozen 0 0 rfl
        have fc1 := R34.cell 0 1 rfl rfl
        have ff1 := R34.frozen 0 1 rfl
        go_simp
        clear fc0 ff0 fc1 ff1
        have R35 := R34.st2 0 (.bool b_q) (.slice A_q n_q n_q) rfl rfl rfl
        have s35 := And.intro (R35.cell 3 0 rfl rfl) (And.intro (R35.cell 3 1 rfl rfl) (And.intro (R35.cell 3 2 rfl rfl) (R35.cell 3 3 rfl rfl)))
        refine hK.out _ _ (fun _ => s35) ?_
        clear hK K
        try simp only [Act.put, List.setIfInBounds_toArray, List.set_cons_zero, List.set_cons_succ]
        generalize ((w34.setCell ⟨w27.heap.size, 0, none⟩ (.bool b_q)).setCell ⟨w27.heap.size, 1, none⟩ (.slice A_q n_q n_q)) = w35 at *
        refine wpAnyL_one (i := 14) (by kernel_rfl) rfl (fun K hK => ?_)
        have fc0 := R35.cell 1 0 rfl rfl
        have ff0 := R35.frozen 1 0 rfl
        have fc1 := R35.cell 1 1 rfl rfl
        have ff1 := R35.frozen 1 1 rfl
        go_simp
        clear fc0 ff0 fc1 ff1
        have R36 := R35.st2 1 (.bool b_u) (.slice A_u n_u n_u) rfl rfl rfl
        have s36 := And.intro (R36.cell 3 0 rfl rfl) (And.intro (R36.cell 3 1 rfl rfl) (And.intro (R36.cell 3 2 rfl rfl) (R36.cell 3 3 rfl rfl)))
        refine hK.out _ _ (fun _ => s36) ?_
        clear hK K
        try simp only [Act.put, List.setIfInBounds_toArray, List.set_cons_zero, List.set_cons_succ]
        generalize ((w35.setCell ⟨w4.heap.size, 0, none⟩ (.bool b_u)).setCell ⟨w4.heap.size, 1, none⟩ (.slice A_u n_u n_u)) = w36 at *
        refine wpAnyL_one (i := 15) (by kernel_rfl) rfl (fun K hK => ?_)
        go_simp
        refine hK.out _ _ (fun _ => s36) ?_
        clear hK K
        try simp only [Act.put, List.setIfInBounds_toArray, List.set_cons_zero, List.set_cons_succ]
        refine wpAnyL_done (by kernel_rfl) ?_ _
        have k37q0 := R36.cell 0 0 rfl rfl
        have k37q1 := R36.cell 0 1 rfl rfl
        go_wp2_with fail
        clear k37q0 k37q1
        refine (zsub (K := k + 5) (ZIs.nil_ _ none 0 0) (R36.z 1 rfl) (by omega) (by omega) (by omega)).mono ?_; rintro e w37 ⟨b_p, A_p, n_p, rfl, z_p, hb37⟩
        have R37 := ((R36.below hb37).add z_p)
        have HL := Lib.hid (Nat.lt_of_le_of_lt (qceil_abs r) ((R37.z 5 rfl).lt))
        have zr0 := R37.cell 2 0 rfl rfl
        have zr1 := R37.cell 2 1 rfl rfl
        have zfr0 := R37.frozen 2 0 rfl
        have zfr1 := R37.frozen 2 1 rfl
        go_wp2_with fail
        have R9_ := R37.st2 2 (.bool b_p) (.slice A_p n_p n_p) rfl rfl rfl
        refine bodyPost_ret (results_cell_row rfl _ _ (w.heap.size + 1) 24 #[.bool b_p, .slice A_p n_p n_p] (0, 0) _ rfl (R9_.b 2 rfl).is Tryz.underlying24 rfl (by kernel_rfl)) rfl ?_
        exact ⟨_, _, _, rfl, ((R9_.z 0 rfl).as (qceil_of r)).tight HL.out, R9_.bel⟩
  · go_simp
    have R38 := R3.alloc 24 #[.bool false, .slice none 0 0] (g := w3.heap.size) rfl rfl
    have s38 := And.intro (R38.cell 2 0 rfl rfl) (And.intro (R38.cell 2 1 rfl rfl) (And.intro (R38.cell 2 2 rfl rfl) (R38.cell 2 3 rfl rfl)))
    refine hK.out _ _ (fun _ => s38) ?_
    clear hK K
    try simp only [Act.put, List.setIfInBounds_toArray, List.set_cons_zero, List.set_cons_succ]
    generalize (w3.alloc (.cells #[.bool false, .slice none 0 0] 24)) = w38 at *
    refine wpAnyL_all (rs := [3, 12]) (by kernel_rfl) (by simp) (StepsL.cons (i := 3) rfl (fun K hK => ?_) (StepsL.cons (i := 12) rfl (fun K hK => ?_) StepsL.nil))
    · go_simp
      refine (zsub (K := k + 1) (ZIs.nil_ _ none 0 0) (R38.z 1 rfl) (by omega) (by omega) (by omega)).mono ?_; rintro e w39 ⟨b_v, A_v, n_v, rfl, z_v, hb39⟩
      have R39 := ((R38.below hb39).add z_v)
      have s39 := And.intro (R39.cell 2 0 rfl rfl) (And.intro (R39.cell 2 1 rfl rfl) (And.intro (R39.cell 2 2 rfl rfl) (R39.cell 2 3 rfl rfl)))
      go_wp2_with fail
      refine hK.out _ _ (fun _ => s39) ?_
      clear hK K
      try simp only [Act.put, List.setIfInBounds_toArray, List.set_cons_zero, List.set_cons_succ]
      refine wpAnyL_all (rs := [6, 12]) (by kernel_rfl) (by simp) (StepsL.cons (i := 6) rfl (fun K hK => ?_) (StepsL.cons (i := 12) rfl (fun K hK => ?_) StepsL.nil))
      · go_simp
        refine (zdiv (K := k + 4) (L := k + 2) (R39.z 0 rfl) (R39.z 1 rfl) (by omega) (by omega) (Int.ne_of_gt (qden_pos r)) (by omega) (by omega)).mono ?_; rintro e w40 ⟨b_q, A_q, n_q, b_u, A_u, n_u, rfl, z_q, z_u, hb40⟩
        have R40 := (((R39.below hb40).add z_q).add z_u)
        have s40 := And.intro (R40.cell 2 0 rfl rfl) (And.intro (R40.cell 2 1 rfl rfl) (And.intro (R40.cell 2 2 rfl rfl) (R40.cell 2 3 rfl rfl)))
        go_wp2_with fail
        refine hK.out _ _ (fun _ => s40) ?_
        clear hK K
        try simp only [Act.put, List.setIfInBounds_toArray, List.set_cons_zero, List.set_cons_succ]
        refine wpAnyL_take (i := 7) (v := ?_) rfl (by kernel_rfl) (by kernel_rfl) (by kernel_rfl) (by kernel_rfl) (by kernel_rfl) (fun _ _ _ h => h) (Or.inl ⟨by kernel_rfl, ?_⟩) s40 ?_
        rotate_left
        · rintro w' ⟨h1, h2, h3, h4⟩; go_simp; (try with_reducible rfl)
        try simp only [Act.put, List.setIfInBounds_toArray, List.set_cons_zero, List.set_cons_succ]
        refine wpAnyL_take (i := 8) (v := ?_) rfl (by kernel_rfl) (by kernel_rfl) (by kernel_rfl) (by kernel_rfl) (by kernel_rfl) (fun _ _ _ h => h) (Or.inl ⟨by kernel_rfl, ?_⟩) s40 ?_
        rotate_left
        · rintro w' ⟨h1, h2, h3, h4⟩; go_simp; (try with_reducible rfl)
        try simp only [Act.put, List.setIfInBounds_toArray, List.set_cons_zero, List.set_cons_succ]
        refine wpAnyL_take (i := 9) (v := ?_) rfl (by kernel_rfl) (by kernel_rfl) (by kernel_rfl) (by kernel_rfl) (by kernel_rfl) (fun _ _ _ h => h) (Or.inl ⟨by kernel_rfl, ?_⟩) s40 ?_
        rotate_left
        · rintro w' ⟨h1, h2, h3, h4⟩; go_simp; (try with_reducible rfl)
        try simp only [Act.put, List.setIfInBounds_toArray, List.set_cons_zero, List.set_cons_succ]
        refine wpAnyL_take (i := 10) (v := ?_) rfl (by kernel_rfl) (by kernel_rfl) (by kernel_rfl) (by kernel_rfl) (by kernel_rfl) (fun _ _ _ h => h) (Or.inl ⟨by kernel_rfl, ?_⟩) s40 ?_
        rotate_left
        · rintro w' ⟨h1, h2, h3, h4⟩; go_simp; (try with_reducible rfl)
        try simp only [Act.put, List.setIfInBounds_toArray, List.set_cons_zero, List.set_cons_succ]
        refine wpAnyL_one (i := 12) (by kernel_rfl) rfl (fun K hK => ?_)
        go_simp
        have R41 := R40.alloc 24 #[.bool false, .slice none 0 0] (g := w40.heap.size) rfl rfl
        have s41 := And.intro (R41.cell 3 0 rfl rfl) (And.intro (R41.cell 3 1 rfl rfl) (And.intro (R41.cell 3 2 rfl rfl) (R41.cell 3 3 rfl rfl)))
        refine hK.out _ _ (fun _ => s41) ?_
        clear hK K
        try simp only [Act.put, List.setIfInBounds_toArray, List.set_cons_zero, List.set_cons_succ]
        generalize (w40.alloc (.cells #[.bool false, .slice none 0 0] 24)) = w41 at *
        refine wpAnyL_one (i := 13) (by kernel_rfl) rfl (fun K hK => ?_)
        have fc0 := R41.cell 1 0 rfl rfl
        have ff0 := R41.frozen 1 0 rfl
        have fc1 := R41.cell 1 1 rfl rfl
        have ff1 := R41.frozen 1 1 rfl
        go_simp
        clear fc0 ff0 fc1 ff1
        have R42 := R41.st2 1 (.bool b_q) (.slice A_q n_q n_q) rfl rfl rfl
        have s42 := And.intro (R42.cell 3 0 rfl rfl) (And.intro (R42.cell 3 1 rfl rfl) (And.intro (R42.cell 3 2 rfl rfl) (R42.cell 3 3 rfl rfl)))
        refine hK.out _ _ (fun _ => s42) ?_
        clear hK K
        try simp only [Act.put, List.setIfInBounds_toArray, List.set_cons_zero, List.set_cons_succ]
        generalize ((w41.setCell ⟨w3.heap.size, 0, none⟩ (.bool b_q)).setCell ⟨w3.heap.size, 1, none⟩ (.slice A_q n_q n_q)) = w42 at *
        refine wpAnyL_one (i := 14) (by kernel_rfl) rfl (fun K hK => ?_)
        have fc0 := R42.cell 0 0 rfl rfl
        have ff0 := R42.frozen 0 0 rfl
        have fc1 := R42.cell 0 1 rfl rfl
        have ff1 := R42.frozen 0 1 rfl
        go_simp
        clear fc0 ff0 fc1 ff1
        have R43 := R42.st2 0 (.bool b_u) (.slice A_u n_u n_u) rfl rfl rfl
        have s43 := And.intro (R43.cell 3 0 rfl rfl) (And.intro (R43.cell 3 1 rfl rfl) (And.intro (R43.cell 3 2 rfl rfl) (R43.cell 3 3 rfl rfl)))
        refine hK.out _ _ (fun _ => s43) ?_
        clear hK K
        try simp only [Act.put, List.setIfInBounds_toArray, List.set_cons_zero, List.set_cons_succ]
        generalize ((w42.setCell ⟨w40.heap.size, 0, none⟩ (.bool b_u)).setCell ⟨w40.heap.size, 1, none⟩ (.slice A_u n_u n_u)) = w43 at *
        refine wpAnyL_one (i := 15) (by kernel_rfl) rfl (fun K hK => ?_)
        go_simp
        refine hK.out _ _ (fun _ => s43) ?_
        clear hK K
        try simp only [Act.put, List.setIfInBounds_toArray, List.set_cons_zero, List.set_cons_succ]
        refine wpAnyL_done (by kernel_rfl) ?_ _
        have k44q0 := R43.cell 1 0 rfl rfl
        have k44q1 := R43.cell 1 1 rfl rfl
        go_wp2_with fail
        clear k44q0 k44q1
        refine (zsub (K := k + 5) (ZIs.nil_ _ none 0 0) (R43.z 1 rfl) (by omega) (by omega) (by omega)).mono ?_; rintro e w44 ⟨b_p, A_p, n_p, rfl, z_p, hb44⟩
        have R44 := ((R43.below hb44).add z_p)
        have HL := Lib.hid (Nat.lt_of_le_of_lt (qceil_abs r) ((R44.z 5 rfl).lt))
        have zr0 := R44.cell 2 0 rfl rfl
        have zr1 := R44.cell 2 1 rfl rfl
        have zfr0 := R44.frozen 2 0 rfl
        have zfr1 := R44.frozen 2 1 rfl
        go_wp2_with fail
        have R9_ := R44.st2 2 (.bool b_p) (.slice A_p n_p n_p) rfl rfl rfl
        refine bodyPost_ret (results_cell_row rfl _ _ (w.heap.size + 1) 24 #[.bool b_p, .slice A_p n_p n_p] (0, 0) _ rfl (R9_.b 2 rfl).is Tryz.underlying24 rfl (by kernel_rfl)) rfl ?_
        exact ⟨_, _, _, rfl, ((R9_.z 0 rfl).as (qceil_of r)).tight HL.out, R9_.bel⟩
      · go_simp
        have R45 := R39.alloc 24 #[.bool false, .slice none 0 0] (g := w39.heap.size) rfl rfl
        have s45 := And.intro (R45.cell 3 0 rfl rfl) (And.intro (R45.cell 3 1 rfl rfl) (And.intro (R45.cell 3 2 rfl rfl) (R45.cell 3 3 rfl rfl)))
        refine hK.out _ _ (fun _ => s45) ?_
        clear hK K
        try simp only [Act.put, List.setIfInBounds_toArray, List.set_cons_zero, List.set_cons_succ]
        generalize (w39.alloc (.cells #[.bool false, .slice none 0 0] 24)) = w45 at *
        refine wpAnyL_one (i := 6) (by kernel_rfl) rfl (fun K hK => ?_)
        go_simp
        refine (zdiv (K := k + 4) (L := k + 2) (R45.z 0 rfl) (R45.z 1 rfl) (by omega) (by omega) (Int.ne_of_gt (qden_pos r)) (by omega) (by omega)).mono ?_; rintro e w46 ⟨b_q, A_q, n_q, b_u, A_u, n_u, rfl, z_q, z_u, hb46⟩
        have R46 := (((R45.below hb46).add z_q).add z_u)
        have s46 := And.intro (R46.cell 3 0 rfl rfl) (And.intro (R46.cell 3 1 rfl rfl) (And.intro (R46.cell 3 2 rfl rfl) (R46.cell 3 3 rfl rfl)))
        go_wp2_with fail
        refine hK.out _ _ (fun _ => s46) ?_
        clear hK K
        try simp only [Act.put, List.setIfInBounds_toArray, List.set_cons_zero, List.set_cons_succ]
        refine wpAnyL_take (i := 7) (v := ?_) rfl (by kernel_rfl) (by kernel_rfl) (by kernel_rfl) (by kernel_rfl) (by kernel_rfl) (fun _ _ _ h => h) (Or.inl ⟨by kernel_rfl, ?_⟩) s46 ?_
        rotate_left
        · rintro w' ⟨h1, h2, h3, h4⟩; go_simp; (try with_reducible rfl)
        try simp only [Act.put, List.setIfInBounds_toArray, List.set_cons_zero, List.set_cons_succ]
        refine wpAnyL_take (i := 8) (v := ?_) rfl (by kernel_rfl) (by kernel_rfl) (by kernel_rfl) (by kernel_rfl) (by kernel_rfl) (fun _ _ _ h => h) (Or.inl ⟨by kernel_rfl, ?_⟩) s46 ?_
        rotate_left
        · rintro w' ⟨h1, h2, h3, h4⟩; go_simp; (try with_reducible rfl)
        try simp only [Act.put, List.setIfInBounds_toArray, List.set_cons_zero, List.set_cons_succ]
        refine wpAnyL_take (i := 9) (v := ?_) rfl (by kernel_rfl) (by kernel_rfl) (by kernel_rfl) (by kernel_rfl) (by kernel_rfl) (fun _ _ _ h => h) (Or.inl ⟨by kernel_rfl, ?_⟩) s46 ?_
        rotate_left
        · rintro w' ⟨h1, h2, h3, h4⟩; go_simp; (try with_reducible rfl)
        try simp only [Act.put, List.setIfInBounds_toArray, List.set_cons_zero, List.set_cons_succ]
        refine wpAnyL_take (i := 10) (v := ?_) rfl (by kernel_rfl) (by kernel_rfl) (by kernel_rfl) (by kernel_rfl) (by kernel_rfl) (fun _ _ _ h => h) (Or.inl ⟨by kernel_rfl, ?_⟩) s46 ?_
        rotate_left
        · rintro w' ⟨h1, h2, h3, h4⟩; go_simp; (try with_reducible rfl)
        try simp only [Act.put, List.setIfInBounds_toArray, List.set_cons_zero, List.set_cons_succ]
        refine wpAnyL_one (i := 13) (by kernel_rfl) rfl (fun K hK => ?_)
        have fc0 := R46.cell 1 0 rfl rfl
        have ff0 := R46.frozen 1 0 rfl
        have fc1 := R46.cell 1 1 rfl rfl
        have ff1 := R46.frozen 1 1 rfl
        go_simp
        clear fc0 ff0 fc1 ff1
        have R47 := R46.st2 1 (.bool b_q) (.slice A_q n_q n_q) rfl rfl rfl
        have s47 := And.intro (R47.cell 3 0 rfl rfl) (And.intro (R47.cell 3 1 rfl rfl) (And.intro (R47.cell 3 2 rfl rfl) (R47.cell 3 3 rfl rfl)))
        refine hK.out _ _ (fun _ => s47) ?_
        clear hK K
        try simp only [Act.put, List.setIfInBounds_toArray, List.set_cons_zero, List.set_cons_succ]
        generalize ((w46.setCell ⟨w3.heap.size, 0, none⟩ (.bool b_q)).setCell ⟨w3.heap.size, 1, none⟩ (.slice A_q n_q n_q)) = w47 at *
        refine wpAnyL_one (i := 14) (by kernel_rfl) rfl (fun K hK => ?_)
        have fc0 := R47.cell 0 0 rfl rfl
        have ff0 := R47.frozen 0 0 rfl
        have fc1 := R47.cell 0 1 rfl rfl
        have ff1 := R47.frozen 0 1 rfl
        go_simp
        clear fc0 ff0 fc1 ff1
        have R48 := R47.st2 0 (.bool b_u) (.slice A_u n_u n_u) rfl rfl rfl
        have s48 := And.intro (R48.cell 3 0 rfl rfl) (And.intro (R48.cell 3 1 rfl rfl) (And.intro (R48.cell 3 2 rfl rfl) (R48.cell 3 3 rfl rfl)))
        refine hK.out _ _ (fun _ => s48) ?_
        clear hK K
        try simp only [Act.put, List.setIfInBounds_toArray, List.set_cons_zero, List.set_cons_succ]
        generalize ((w47.setCell ⟨w39.heap.size, 0, none⟩ (.bool b_u)).setCell ⟨w39.heap.size, 1, none⟩ (.slice A_u n_u n_u)) = w48 at *
        refine wpAnyL_one (i := 15) (by kernel_rfl) rfl (fun K hK => ?_)
        go_simp
        refine hK.out _ _ (fun _ => s48) ?_
        clear hK K
        try simp only [Act.put, List.setIfInBounds_toArray, List.set_cons_zero, List.set_cons_succ]
        refine wpAnyL_done (by kernel_rfl) ?_ _
        have k49q0 := R48.cell 1 0 rfl rfl
        have k49q1 := R48.cell 1 1 rfl rfl
        go_wp2_with fail
        clear k49q0 k49q1
        refine (zsub (K := k + 5) (ZIs.nil_ _ none 0 0) (R48.z 1 rfl) (by omega) (by omega) (by omega)).mono ?_; rintro e w49 ⟨b_p, A_p, n_p, rfl, z_p, hb49⟩
        have R49 := ((R48.below hb49).add z_p)
        have HL := Lib.hid (Nat.lt_of_le_of_lt (qceil_abs r) ((R49.z 5 rfl).lt))
        have zr0 := R49.cell 2 0 rfl rfl
        have zr1 := R49.cell 2 1 rfl rfl
        have zfr0 := R49.frozen 2 0 rfl
        have zfr1 := R49.frozen 2 1 rfl
        go_wp2_with fail
        have R9_ := R49.st2 2 (.bool b_p) (.slice A_p n_p n_p) rfl rfl rfl
        refine bodyPost_ret (results_cell_row rfl _ _ (w.heap.size + 1) 24 #[.bool b_p, .slice A_p n_p n_p] (0, 0) _ rfl (R9_.b 2 rfl).is Tryz.underlying24 rfl (by kernel_rfl)) rfl ?_
        exact ⟨_, _, _, rfl, ((R9_.z 0 rfl).as (qceil_of r)).tight HL.out, R9_.bel⟩
    · go_simp
      have R50 := R38.alloc 24 #[.bool false, .slice none 0 0] (g := w38.heap.size) rfl rfl
      have s50 := And.intro (R50.cell 3 0 rfl rfl) (And.intro (R50.cell 3 1 rfl rfl) (And.intro (R50.cell 3 2 rfl rfl) (R50.cell 3 3 rfl rfl)))
      refine hK.out _ _ (fun _ => s50) ?_
      clear hK K
      try simp only [Act.put, List.setIfInBounds_toArray, List.set_cons_zero, List.set_cons_succ]
      generalize (w38.alloc (.cells #[.bool false, .slice none 0 0] 24)) = w50 at *
      refine wpAnyL_one (i := 3) (by kernel_rfl) rfl (fun K hK => ?_)
      go_simp
      refine (zsub (K := k + 1) (ZIs.nil_ _ none 0 0) (R50.z 1 rfl) (by omega) (by omega) (by omega)).mono ?_; rintro e w51 ⟨b_v, A_v, n_v, rfl, z_v, hb51⟩
      have R51 := ((R50.below hb51).add z_v)
      have s51 := And.intro (R51.cell 3 0 rfl rfl) (And.intro (R51.cell 3 1 rfl rfl) (And.intro (R51.cell 3 2 rfl rfl) (R51.cell 3 3 rfl rfl)))
      go_wp2_with fail
      refine hK.out _ _ (fun _ => s51) ?_
      clear hK K
      try simp only [Act.put, List.setIfInBounds_toArray, List.set_cons_zero, List.set_cons_succ]
      refine wpAnyL_one (i := 6) (by kernel_rfl) rfl (fun K hK => ?_)
      go_simp
      refine (zdiv (K := k + 4) (L := k + 2) (R51.z 0 rfl) (R51.z 1 rfl) (by omega) (by omega) (Int.ne_of_gt (qden_pos r)) (by omega) (by omega)).mono ?_; rintro e w52 ⟨b_q, A_q, n_q, b_u, A_u, n_u, rfl, z_q, z_u, hb52⟩
      have R52 := (((R51.below hb52).add z_q).add z_u)
      have s52 := And.intro (R52.cell 3 0 rfl rfl) (And.intro (R52.cell 3 1 rfl rfl) (And.intro (R52.cell 3 2 rfl rfl) (R52.cell 3 3 rfl rfl)))
      go_wp2_with fail
      refine hK.out _ _ (fun _ => s52) ?_
      clear hK K
      try simp only [Act.put, List.setIfInBounds_toArray, List.set_cons_zero, List.set_cons_succ]
      refine wpAnyL_take (i := 7) (v := ?_) rfl (by kernel_rfl) (by kernel_rfl) (by kernel_rfl) (by kernel_rfl) (by kernel_rfl) (fun _ _ _ h => h) (Or.inl ⟨by kernel_rfl, ?_⟩) s52 ?_
      rotate_left
      · rintro w' ⟨h1, h2, h3, h4⟩; go_simp; (try with_reducible rfl)
      try simp only [Act.put, List.setIfInBounds_toArray, List.set_cons_zero, List.set_cons_succ]
      refine wpAnyL_take (i := 8) (v := ?_) rfl (by kernel_rfl) (by kernel_rfl) (by kernel_rfl) (by kernel_rfl) (by kernel_rfl) (fun _ _ _ h => h) (Or.inl ⟨by kernel_rfl, ?_⟩) s52 ?_
      rotate_left
      · rintro w' ⟨h1, h2, h3, h4⟩; go_simp; (try with_reducible rfl)
      try simp only [Act.put, List.setIfInBounds_toArray, List.set_cons_zero, List.set_cons_succ]
      refine wpAnyL_take (i := 9) (v := ?_) rfl (by kernel_rfl) (by kernel_rfl) (by kernel_rfl) (by kernel_rfl) (by kernel_rfl) (fun _ _ _ h => h) (Or.inl ⟨by kernel_rfl, ?_⟩) s52 ?_
      rotate_left
      · rintro w' ⟨h1, h2, h3, h4⟩; go_simp; (try with_reducible rfl)
      try simp only [Act.put, List.setIfInBounds_toArray, List.set_cons_zero, List.set_cons_succ]
      refine wpAnyL_take (i := 10) (v := ?_) rfl (by kernel_rfl) (by kernel_rfl) (by kernel_rfl) (by kernel_rfl) (by kernel_rfl) (fun _ _ _ h => h) (Or.inl ⟨by kernel_rfl, ?_⟩) s52 ?_
      rotate_left
      · rintro w' ⟨h1, h2, h3, h4⟩; go_simp; (try with_reducible rfl)
      try simp only [Act.put, List.setIfInBounds_toArray, List.set_cons_zero, List.set_cons_succ]
      refine wpAnyL_one (i := 13) (by kernel_rfl) rfl (fun K hK => ?_)
      have fc0 := R52.cell 1 0 rfl rfl
      have ff0 := R52.frozen 1 0 rfl
      have fc1 := R52.cell 1 1 rfl rfl
      have ff1 := R52.frozen 1 1 rfl
      go_simp
      clear fc0 ff0 fc1 ff1
      have R53 := R52.st2 1 (.bool b_q) (.slice A_q n_q n_q) rfl rfl rfl
      have s53 := And.intro (R53.cell 3 0 rfl rfl) (And.intro (R53.cell 3 1 rfl rfl) (And.intro (R53.cell 3 2 rfl rfl) (R53.cell 3 3 rfl rfl)))
      refine hK.out _ _ (fun _ => s53) ?_
      clear hK K
      try simp only [Act.put, List.setIfInBounds_toArray, List.set_cons_zero, List.set_cons_succ]
      generalize ((w52.setCell ⟨w3.heap.size, 0, none⟩ (.bool b_q)).setCell ⟨w3.heap.size, 1, none⟩ (.slice A_q n_q n_q)) = w53 at *
      refine wpAnyL_one (i := 14) (by kernel_rfl) rfl (fun K hK => ?_)
      have fc0 := R53.cell 0 0 rfl rfl
      have ff0 := R53.frozen 0 0 rfl
      have fc1 := R53.cell 0 1 rfl rfl
      have ff1 := R53.frozen 0 1 rfl
      go_simp
      clear fc0 ff0 fc1 ff1
      have R54 := R53.st2 0 (.bool b_u) (.slice A_u n_u n_u) rfl rfl rfl
      have s54 := And.intro (R54.cell 3 0 rfl rfl) (And.intro (R54.cell 3 1 rfl rfl) (And.intro (R54.cell 3 2 rfl rfl) (R54.cell 3 3 rfl rfl)))
      refine hK.out _ _ (fun _ => s54) ?_
      clear hK K
      try simp only [Act.put, List.setIfInBounds_toArray, List.set_cons_zero, List.set_cons_succ]
      generalize ((w53.setCell ⟨w38.heap.size, 0, none⟩ (.bool b_u)).setCell ⟨w38.heap.size, 1, none⟩ (.slice A_u n_u n_u)) = w54 at *
      refine wpAnyL_one (i := 15) (by kernel_rfl) rfl (fun K hK => ?_)
      go_simp
      refine hK.out _ _ (fun _ => s54) ?_
      clear hK K
      try simp only [Act.put, List.setIfInBounds_toArray, List.set_cons_zero, List.set_cons_succ]
      refine wpAnyL_done (by kernel_rfl) ?_ _
      have k55q0 := R54.cell 1 0 rfl rfl
      have k55q1 := R54.cell 1 1 rfl rfl
      go_wp2_with fail
      clear k55q0 k55q1
      refine (zsub (K := k + 5) (ZIs.nil_ _ none 0 0) (R54.z 1 rfl) (by omega) (by omega) (by omega)).mono ?_; rintro e w55 ⟨b_p, A_p, n_p, rfl, z_p, hb55⟩
      have R55 := ((R54.below hb55).add z_p)
      have HL := Lib.hid (Nat.lt_of_le_of_lt (qceil_abs r) ((R55.z 5 rfl).lt))
      have zr0 := R55.cell 2 0 rfl rfl
      have zr1 := R55.cell 2 1 rfl rfl
      have zfr0 := R55.frozen 2 0 rfl
      have zfr1 := R55.frozen 2 1 rfl
      go_wp2_with fail
      have R9_ := R55.st2 2 (.bool b_p) (.slice A_p n_p n_p) rfl rfl rfl
      refine bodyPost_ret (results_cell_row rfl _ _ (w.heap.size + 1) 24 #[.bool b_p, .slice A_p n_p n_p] (0, 0) _ rfl (R9_.b 2 rfl).is Tryz.underlying24 rfl (by kernel_rfl)) rfl ?_
      exact ⟨_, _, _, rfl, ((R9_.z 0 rfl).as (qceil_of r)).tight HL.out, R9_.bel⟩
  · go_simp
    have R56 := R3.alloc 24 #[.bool false, .slice none 0 0] (g := w3.heap.size) rfl rfl
    have s56 := And.intro (R56.cell 2 0 rfl rfl) (And.intro (R56.cell 2 1 rfl rfl) (And.intro (R56.cell 2 2 rfl rfl) (R56.cell 2 3 rfl rfl)))
    refine hK.out _ _ (fun _ => s56) ?_
    clear hK K
    try simp only [Act.put, List.setIfInBounds_toArray, List.set_cons_zero, List.set_cons_succ]
    generalize (w3.alloc (.cells #[.bool false, .slice none 0 0] 24)) = w56 at *
    refine wpAnyL_all (rs := [3, 11]) (by kernel_rfl) (by simp) (StepsL.cons (i := 3) rfl (fun K hK => ?_) (StepsL.cons (i := 11) rfl (fun K hK => ?_) StepsL.nil))
    · go_simp
      refine (zsub (K := k + 1) (ZIs.nil_ _ none 0 0) (R56.z 1 rfl) (by omega) (by omega) (by omega)).mono ?_; rintro e w57 ⟨b_v, A_v, n_v, rfl, z_v, hb57⟩
      have R57 := ((R56.below hb57).add z_v)
      have s57 := And.intro (R57.cell 2 0 rfl rfl) (And.intro (R57.cell 2 1 rfl rfl) (And.intro (R57.cell 2 2 rfl rfl) (R57.cell 2 3 rfl rfl)))
      go_wp2_with fail
      refine hK.out _ _ (fun _ => s57) ?_
      clear hK K
      try simp only [Act.put, List.setIfInBounds_toArray, List.set_cons_zero, List.set_cons_succ]
      refine wpAnyL_all (rs := [6, 11]) (by kernel_rfl) (by simp) (StepsL.cons (i := 6) rfl (fun K hK => ?_) (StepsL.cons (i := 11) rfl (fun K hK => ?_) StepsL.nil))
      · go_simp
        refine (zdiv (K := k + 4) (L := k + 2) (R57.z 0 rfl) (R57.z 1 rfl) (by omega) (by omega) (Int.ne_of_gt (qden_pos r)) (by omega) (by omega)).mono ?_; rintro e w58 ⟨b_q, A_q, n_q, b_u, A_u, n_u, rfl, z_q, z_u, hb58⟩
        have R58 := (((R57.below hb58).add z_q).add z_u)
        have s58 := And.intro (R58.cell 2 0 rfl rfl) (And.intro (R58.cell 2 1 rfl rfl) (And.intro (R58.cell 2 2 rfl rfl) (R58.cell 2 3 rfl rfl)))
        go_wp2_with fail
        refine hK.out _ _ (fun _ => s58) ?_
        clear hK K
        try simp only [Act.put, List.setIfInBounds_toArray, List.set_cons_zero, List.set_cons_succ]
        refine wpAnyL_take (i := 7) (v := ?_) rfl (by kernel_rfl) (by kernel_rfl) (by kernel_rfl) (by kernel_rfl) (by kernel_rfl) (fun _ _ _ h => h) (Or.inl ⟨by kernel_rfl, ?_⟩) s58 ?_
        rotate_left
        · rintro w' ⟨h1, h2, h3, h4⟩; go_simp; (try with_reducible rfl)
        try simp only [Act.put, List.setIfInBounds_toArray, List.set_cons_zero, List.set_cons_succ]
        refine wpAnyL_take (i := 8) (v := ?_) rfl (by kernel_rfl) (by kernel_rfl) (by kernel_rfl) (by kernel_rfl) (by kernel_rfl) (fun _ _ _ h => h) (Or.inl ⟨by kernel_rfl, ?_⟩) s58 ?_
        rotate_left
        · rintro w' ⟨h1, h2, h3, h4⟩; go_simp; (try with_reducible rfl)
        try simp only [Act.put, List.setIfInBounds_toArray, List.set_cons_zero, List.set_cons_succ]
        refine wpAnyL_take (i := 9) (v := ?_) rfl (by kernel_rfl) (by kernel_rfl) (by kernel_rfl) (by kernel_rfl) (by kernel_rfl) (fun _ _ _ h => h) (Or.inl ⟨by kernel_rfl, ?_⟩) s58 ?_
        rotate_left
        · rintro w' ⟨h1, h2, h3, h4⟩; go_simp; (try with_reducible rfl)
        try simp only [Act.put, List.setIfInBounds_toArray, List.set_cons_zero, List.set_cons_succ]
        refine wpAnyL_take (i := 10) (v := ?_) rfl (by kernel_rfl) (by kernel_rfl) (by kernel_rfl) (by kernel_rfl) (by kernel_rfl) (fun _ _ _ h => h) (Or.inl ⟨by kernel_rfl, ?_⟩) s58 ?_
        rotate_left
        · rintro w' ⟨h1, h2, h3, h4⟩; go_simp; (try with_reducible rfl)
        try simp only [Act.put, List.setIfInBounds_toArray, List.set_cons_zero, List.set_cons_succ]
        refine wpAnyL_one (i := 11) (by kernel_rfl) rfl (fun K hK => ?_)
        go_simp
        have R59 := R58.alloc 24 #[.bool false, .slice none 0 0] (g := w58.heap.size) rfl rfl
        have s59 := And.intro (R59.cell 3 0 rfl rfl) (And.intro (R59.cell 3 1 rfl rfl) (And.intro (R59.cell 3 2 rfl rfl) (R59.cell 3 3 rfl rfl)))
        refine hK.out _ _ (fun _ => s59) ?_
        clear hK K
        try simp only [Act.put, List.setIfInBounds_toArray, List.set_cons_zero, List.set_cons_succ]
        generalize (w58.alloc (.cells #[.bool false, .slice none 0 0] 24)) = w59 at *
        refine wpAnyL_one (i := 13) (by kernel_rfl) rfl (fun K hK => ?_)
        have fc0 := R59.cell 0 0 rfl rfl
        have ff0 := R59.frozen 0 0 rfl
        have fc1 := R59.cell 0 1 rfl rfl
        have ff1 := R59.frozen 0 1 rfl
        go_simp
        clear fc0 ff0 fc1 ff1
        have R60 := R59.st2 0 (.bool b_q) (.slice A_q n_q n_q) rfl rfl rfl
        have s60 := And.intro (R60.cell 3 0 rfl rfl) (And.intro (R60.cell 3 1 rfl rfl) (And.intro (R60.cell 3 2 rfl rfl) (R60.cell 3 3 rfl rfl)))
        refine hK.out _ _ (fun _ => s60) ?_
        clear hK K
        try simp only [Act.put, List.setIfInBounds_toArray, List.set_cons_zero, List.set_cons_succ]
        generalize ((w59.setCell ⟨w58.heap.size, 0, none⟩ (.bool b_q)).setCell ⟨w58.heap.size, 1, none⟩ (.slice A_q n_q n_q)) = w60 at *
        refine wpAnyL_one (i := 14) (by kernel_rfl) rfl (fun K hK => ?_)
        have fc0 := R60.cell 1 0 rfl rfl
        have ff0 := R60.frozen 1 0 rfl
        have fc1 := R60.cell 1 1 rfl rfl
        have ff1 := R60.frozen 1 1 rfl
        go_simp
        clear fc0 ff0 fc1 ff1
        have R61 := R60.st2 1 (.bool b_u) (.slice A_u n_u n_u) rfl rfl rfl
        have s61 := And.intro (R61.cell 3 0 rfl rfl) (And.intro (R61.cell 3 1 rfl rfl) (And.intro (R61.cell 3 2 rfl rfl) (R61.cell 3 3 rfl rfl)))
        refine hK.out _ _ (fun _ => s61) ?_
        clear hK K
        try simp only [Act.put, List.setIfInBounds_toArray, List.set_cons_zero, List.set_cons_succ]
        generalize ((w60.setCell ⟨w3.heap.size, 0, none⟩ (.bool b_u)).setCell ⟨w3.heap.size, 1, none⟩ (.slice A_u n_u n_u)) = w61 at *
        refine wpAnyL_one (i := 15) (by kernel_rfl) rfl (fun K hK => ?_)
        go_simp
        refine hK.out _ _ (fun _ => s61) ?_
        clear hK K
        try simp only [Act.put, List.setIfInBounds_toArray, List.set_cons_zero, List.set_cons_succ]
        refine wpAnyL_done (by kernel_rfl) ?_ _
        have k62q0 := R61.cell 0 0 rfl rfl
        have k62q1 := R61.cell 0 1 rfl rfl
        go_wp2_with fail
        clear k62q0 k62q1
        refine (zsub (K := k + 5) (ZIs.nil_ _ none 0 0) (R61.z 1 rfl) (by omega) (by omega) (by omega)).mono ?_; rintro e w62 ⟨b_p, A_p, n_p, rfl, z_p, hb62⟩
        have R62 := ((R61.below hb62).add z_p)
        have HL := Lib.hid (Nat.lt_of_le_of_lt (qceil_abs r) ((R62.z 5 rfl).lt))
        have zr0 := R62.cell 2 0 rfl rfl
        have zr1 := R62.cell 2 1 rfl rfl
        have zfr0 := R62.frozen 2 0 rfl
        have zfr1 := R62.frozen 2 1 rfl
        go_wp2_with fail
        have R9_ := R62.st2 2 (.bool b_p) (.slice A_p n_p n_p) rfl rfl rfl
        refine bodyPost_ret (results_cell_row rfl _ _ (w.heap.size + 1) 24 #[.bool b_p, .slice A_p n_p n_p] (0, 0) _ rfl (R9_.b 2 rfl).is Tryz.underlying24 rfl (by kernel_rfl)) rfl ?_
        exact ⟨_, _, _, rfl, ((R9_.z 0 rfl).as (qceil_of r)).tight HL.out, R9_.bel⟩
      · go_simp
        have R63 := R57.alloc 24 #[.bool false, .slice none 0 0] (g := w57.heap.size) rfl rfl
        have s63 := And.intro (R63.cell 3 0 rfl rfl) (And.intro (R63.cell 3 1 rfl rfl) (And.intro (R63.cell 3 2 rfl rfl) (R63.cell 3 3 rfl rfl)))
        refine hK.out _ _ (fun _ => s63) ?_
        clear hK K
        try simp only [Act.put, List.setIfInBounds_toArray, List.set_cons_zero, List.set_cons_succ]
        generalize (w57.alloc (.cells #[.bool false, .slice none 0 0] 24)) = w63 at *
        refine wpAnyL_one (i := 6) (by kernel_rfl) rfl (fun K hK => ?_)
        go_simp
        refine (zdiv (K := k + 4) (L := k + 2) (R63.z 0 rfl) (R63.z 1 rfl) (by omega) (by omega) (Int.ne_of_gt (qden_pos r)) (by omega) (by omega)).mono ?_; rintro e w64 ⟨b_q, A_q, n_q, b_u, A_u, n_u, rfl, z_q, z_u, hb64⟩
        have R64 := (((R63.below hb64).add z_q).add z_u)
        have s64 := And.intro (R64.cell 3 0 rfl rfl) (And.intro (R64.cell 3 1 rfl rfl) (And.intro (R64.cell 3 2 rfl rfl) (R64.cell 3 3 rfl rfl)))
        go_wp2_with fail
        refine hK.out _ _ (fun _ => s64) ?_
        clear hK K
        try simp only [Act.put, List.setIfInBounds_toArray, List.set_cons_zero, List.set_cons_succ]
        refine wpAnyL_take (i := 7) (v := ?_) rfl (by kernel_rfl) (by kernel_rfl) (by kernel_rfl) (by kernel_rfl) (by kernel_rfl) (fun _ _ _ h => h) (Or.inl ⟨by kernel_rfl, ?_⟩) s64 ?_
        rotate_left
        · rintro w' ⟨h1, h2, h3, h4⟩; go_simp; (try with_reducible rfl)
        try simp only [Act.put, List.setIfInBounds_toArray, List.set_cons_zero, List.set_cons_succ]
        refine wpAnyL_take (i := 8) (v := ?_) rfl (by kernel_rfl) (by kernel_rfl) (by kernel_rfl) (by kernel_rfl) (by kernel_rfl) (fun _ _ _ h => h) (Or.inl ⟨by kernel_rfl, ?_⟩) s64 ?_
        rotate_left
        · rintro w' ⟨h1, h2, h3, h4⟩; go_simp; (try with_reducible rfl)
        try simp only [Act.put, List.setIfInBounds_toArray, List.set_cons_zero, List.set_cons_succ]
        refine wpAnyL_take (i := 9) (v := ?_) rfl (by kernel_rfl) (by kernel_rfl) (by kernel_rfl) (by kernel_rfl) (by kernel_rfl) (fun _ _ _ h => h) (Or.inl ⟨by kernel_rfl, ?_⟩) s64 ?_
        rotate_left
        · rintro w' ⟨h1, h2, h3, h4⟩; go_simp; (try with_reducible rfl)
        try simp only [Act.put, List.setIfInBounds_toArray, List.set_cons_zero, List.set_cons_succ]
        refine wpAnyL_take (i := 10) (v := ?_) rfl (by kernel_rfl) (by kernel_rfl) (by kernel_rfl) (by kernel_rfl) (by kernel_rfl) (fun _ _ _ h => h) (Or.inl ⟨by kernel_rfl, ?_⟩) s64 ?_
        rotate_left
        · rintro w' ⟨h1, h2, h3, h4⟩; go_simp; (try with_reducible rfl)
        try simp only [Act.put, List.setIfInBounds_toArray, List.set_cons_zero, List.set_cons_succ]
        refine wpAnyL_one (i := 13) (by kernel_rfl) rfl (fun K hK => ?_)
        have fc0 := R64.cell 0 0 rfl rfl
        have ff0 := R64.frozen 0 0 rfl
        have fc1 := R64.cell 0 1 rfl rfl
        have ff1 := R64.frozen 0 1 rfl
        go_simp
        clear fc0 ff0 fc1 ff1
        have R65 := R64.st2 0 (.bool b_q) (.slice A_q n_q n_q) rfl rfl rfl
        have s65 := And.intro (R65.cell 3 0 rfl rfl) (And.intro (R65.cell 3 1 rfl rfl) (And.intro (R65.cell 3 2 rfl rfl) (R65.cell 3 3 rfl rfl)))
        refine hK.out _ _ (fun _ => s65) ?_
        clear hK K
        try simp only [Act.put, List.setIfInBounds_toArray, List.set_cons_zero, List.set_cons_succ]
        generalize ((w64.setCell ⟨w57.heap.size, 0, none⟩ (.bool b_q)).setCell ⟨w57.heap.size, 1, none⟩ (.slice A_q n_q n_q)) = w65 at *
        refine wpAnyL_one (i := 14) (by kernel_rfl) rfl (fun K hK => ?_)
        have fc0 := R65.cell 1 0 rfl rfl
        have ff0 := R65.frozen 1 0 rfl
        have fc1 := R65.cell 1 1 rfl rfl
        have ff1 := R65.frozen 1 1 rfl
        go_simp
        clear fc0 ff0 fc1 ff1
        have R66 := R65.st2 1 (.bool b_u) (.slice A_u n_u n_u) rfl rfl rfl
        have s66 := And.intro (R66.cell 3 0 rfl rfl) (And.intro (R66.cell 3 1 rfl rfl) (And.intro (R66.cell 3 2 rfl rfl) (R66.cell 3 3 rfl rfl)))
        refine hK.out _ _ (fun _ => s66) ?_
        clear hK K
        try simp only [Act.put, List.setIfInBounds_toArray, List.set_cons_zero, List.set_cons_succ]
        generalize ((w65.setCell ⟨w3.heap.size, 0, none⟩ (.bool b_u)).setCell ⟨w3.heap.size, 1, none⟩ (.slice A_u n_u n_u)) = w66 at *
        refine wpAnyL_one (i := 15) (by kernel_rfl) rfl (fun K hK => ?_)
        go_simp
        refine hK.out _ _ (fun _ => s66) ?_
        clear hK K
        try simp only [Act.put, List.setIfInBounds_toArray, List.set_cons_zero, List.set_cons_succ]
        refine wpAnyL_done (by kernel_rfl) ?_ _
        have k67q0 := R66.cell 0 0 rfl rfl
        have k67q1 := R66.cell 0 1 rfl rfl
        go_wp2_with fail
        clear k67q0 k67q1
        refine (zsub (K := k + 5) (ZIs.nil_ _ none 0 0) (R66.z 1 rfl) (by omega) (by omega) (by omega)).mono ?_; rintro e w67 ⟨b_p, A_p, n_p, rfl, z_p, hb67⟩
        have R67 := ((R66.below hb67).add z_p)
        have HL := Lib.hid (Nat.lt_of_le_of_lt (qceil_abs r) ((R67.z 5 rfl).lt))
        have zr0 := R67.cell 2 0 rfl rfl
        have zr1 := R67.cell 2 1 rfl rfl
        have zfr0 := R67.frozen 2 0 rfl
        have zfr1 := R67.frozen 2 1 rfl
        go_wp2_with fail
        have R9_ := R67.st2 2 (.bool b_p) (.slice A_p n_p n_p) rfl rfl rfl
        refine bodyPost_ret (results_cell_row rfl _ _ (w.heap.size + 1) 24 #[.bool b_p, .slice A_p n_p n_p] (0, 0) _ rfl (R9_.b 2 rfl).is Tryz.underlying24 rfl (by kernel_rfl)) rfl ?_
        exact ⟨_, _, _, rfl, ((R9_.z 0 rfl).as (qceil_of r)).tight HL.out, R9_.bel⟩
    · go_simp
      have R68 := R56.alloc 24 #[.bool false, .slice none 0 0] (g := w56.heap.size) rfl rfl
      have s68 := And.intro (R68.cell 3 0 rfl rfl) (And.intro (R68.cell 3 1 rfl rfl) (And.intro (R68.cell 3 2 rfl rfl) (R68.cell 3 3 rfl rfl)))
      refine hK.out _ _ (fun _ => s68) ?_
      clear hK K
      try simp only [Act.put, List.setIfInBounds_toArray, List.set_cons_zero, List.set_cons_succ]
      generalize (w56.alloc (.cells #[.bool false, .slice none 0 0] 24)) = w68 at *
      refine wpAnyL_one (i := 3) (by kernel_rfl) rfl (fun K hK => ?_)
      go_simp
      refine (zsub (K := k + 1) (ZIs.nil_ _ none 0 0) (R68.z 1 rfl) (by omega) (by omega) (by omega)).mono ?_; rintro e w69 ⟨b_v, A_v, n_v, rfl, z_v, hb69⟩
      have R69 := ((R68.below hb69).add z_v)
      have s69 := And.intro (R69.cell 3 0 rfl rfl) (And.intro (R69.cell 3 1 rfl rfl) (And.intro (R69.cell 3 2 rfl rfl) (R69.cell 3 3 rfl rfl)))
      go_wp2_with fail
      refine hK.out _ _ (fun _ => s69) ?_
      clear hK K
      try simp only [Act.put, List.setIfInBounds_toArray, List.set_cons_zero, List.set_cons_succ]
      refine wpAnyL_one (i := 6) (by kernel_rfl) rfl (fun K hK => ?_)
      go_simp
      refine (zdiv (K := k + 4) (L := k + 2) (R69.z 0 rfl) (R69.z 1 rfl) (by omega) (by omega) (Int.ne_of_gt (qden_pos r)) (by omega) (by omega)).mono ?_; rintro e w70 ⟨b_q, A_q, n_q, b_u, A_u, n_u, rfl, z_q, z_u, hb70⟩
      have R70 := (((R69.below hb70).add z_q).add z_u)
      have s70 := And.intro (R70.cell 3 0 rfl rfl) (And.intro (R70.cell 3 1 rfl rfl) (And.intro (R70.cell 3 2 rfl rfl) (R70.cell 3 3 rfl rfl)))
      go_wp2_with fail
      refine hK.out _ _ (fun _ => s70) ?_
      clear hK K
      try simp only [Act.put, List.setIfInBounds_toArray, List.set_cons_zero, List.set_cons_succ]
      refine wpAnyL_take (i := 7) (v := ?_) rfl (by kernel_rfl) (by kernel_rfl) (by kernel_rfl) (by kernel_rfl) (by kernel_rfl) (fun _ _ _ h => h) (Or.inl ⟨by kernel_rfl, ?_⟩) s70 ?_
      rotate_left
      · rintro w' ⟨h1, h2, h3, h4⟩; go_simp; (try with_reducible rfl)
      try simp only [Act.put, List.setIfInBounds_toArray, List.set_cons_zero, List.set_cons_succ]
      refine wpAnyL_take (i := 8) (v := ?_) rfl (by kernel_rfl) (by kernel_rfl) (by kernel_rfl) (by kernel_rfl) (by kernel_rfl) (fun _ _ _ h => h) (Or.inl ⟨by kernel_rfl, ?_⟩) s70 ?_
      rotate_left
      · rintro w' ⟨h1, h2, h3, h4⟩; go_simp; (try with_reducible rfl)
      try simp only [Act.put, List.setIfInBounds_toArray, List.set_cons_zero, List.set_cons_succ]
      refine wpAnyL_take (i := 9) (v := ?_) rfl (by kernel_rfl) (by kernel_rfl) (by kernel_rfl) (by kernel_rfl) (by kernel_rfl) (fun _ _ _ h => h) (Or.inl ⟨by kernel_rfl, ?_⟩) s70 ?_
      rotate_left
      · rintro w' ⟨h1, h2, h3, h4⟩; go_simp; (try with_reducible rfl)
      try simp only [Act.put, List.setIfInBounds_toArray, List.set_cons_zero, List.set_cons_succ]
      refine wpAnyL_take (i := 10) (v := ?_) rfl (by kernel_rfl) (by kernel_rfl) (by kernel_rfl) (by kernel_rfl) (by kernel_rfl) (fun _ _ _ h => h) (Or.inl ⟨by kernel_rfl, ?_⟩) s70 ?_
      rotate_left
      · rintro w' ⟨h1, h2, h3, h4⟩; go_simp; (try with_reducible rfl)
      try simp only [Act.put, List.setIfInBounds_toArray, List.set_cons_zero, List.set_cons_succ]
      refine wpAnyL_one (i := 13) (by kernel_rfl) rfl (fun K hK => ?_)
      have fc0 := R70.cell 0 0 rfl rfl
      have ff0 := R70.frozen 0 0 rfl
      have fc1 := R70.cell 0 1 rfl rfl
      have ff1 := R70.frozen 0 1 rfl
      go_simp
      clear fc0 ff0 fc1 ff1
      have R71 := R70.st2 0 (.bool b_q) (.slice A_q n_q n_q) rfl rfl rfl
      have s71 := And.intro (R71.cell 3 0 rfl rfl) (And.intro (R71.cell 3 1 rfl rfl) (And.intro (R71.cell 3 2 rfl rfl) (R71.cell 3 3 rfl rfl)))
      refine hK.out _ _ (fun _ => s71) ?_
      clear hK K
      try simp only [Act.put, List.setIfInBounds_toArray, List.set_cons_zero, List.set_cons_succ]
      generalize ((w70.setCell ⟨w56.heap.size, 0, none⟩ (.bool b_q)).setCell ⟨w56.heap.size, 1, none⟩ (.slice A_q n_q n_q)) = w71 at *
      refine wpAnyL_one (i := 14) (by kernel_rfl) rfl (fun K hK => ?_)
      have fc0 := R71.cell 1 0 rfl rfl
      have ff0 := R71.frozen 1 0 rfl
      have fc1 := R71.cell 1 1 rfl rfl
      have ff1 := R71.frozen 1 1 rfl
      go_simp
      clear fc0 ff0 fc1 ff1
      have R72 := R71.st2 1 (.bool b_u) (.slice A_u n_u n_u) rfl rfl rfl
      have s72 := And.intro (R72.cell 3 0 rfl rfl) (And.intro (R72.cell 3 1 rfl rfl) (And.intro (R72.cell 3 2 rfl rfl) (R72.cell 3 3 rfl rfl)))
      refine hK.out _ _ (fun _ => s72) ?_
      clear hK K
      try simp only [Act.put, List.setIfInBounds_toArray, List.set_cons_zero, List.set_cons_succ]
      generalize ((w71.setCell ⟨w3.heap.size, 0, none⟩ (.bool b_u)).setCell ⟨w3.heap.size, 1, none⟩ (.slice A_u n_u n_u)) = w72 at *
      refine wpAnyL_one (i := 15) (by kernel_rfl) rfl (fun K hK => ?_)
      go_simp
      refine hK.out _ _ (fun _ => s72) ?_
      clear hK K
      try simp only [Act.put, List.setIfInBounds_toArray, List.set_cons_zero, List.set_cons_succ]
      refine wpAnyL_done (by kernel_rfl) ?_ _
      have k73q0 := R72.cell 0 0 rfl rfl
      have k73q1 := R72.cell 0 1 rfl rfl
      go_wp2_with fail
      clear k73q0 k73q1
      refine (zsub (K := k + 5) (ZIs.nil_ _ none 0 0) (R72.z 1 rfl) (by omega) (by omega) (by omega)).mono ?_; rintro e w73 ⟨b_p, A_p, n_p, rfl, z_p, hb73⟩
      have R73 := ((R72.below hb73).add z_p)
      have HL := Lib.hid (Nat.lt_of_le_of_lt (qceil_abs r) ((R73.z 5 rfl).lt))
      have zr0 := R73.cell 2 0 rfl rfl
      have zr1 := R73.cell 2 1 rfl rfl
      have zfr0 := R73.frozen 2 0 rfl
      have zfr1 := R73.frozen 2 1 rfl
      go_wp2_with fail
      have R9_ := R73.st2 2 (.bool b_p) (.slice A_p n_p n_p) rfl rfl rfl
      refine bodyPost_ret (results_cell_row rfl _ _ (w.heap.size + 1) 24 #[.bool b_p, .slice A_p n_p n_p] (0, 0) _ rfl (R9_.b 2 rfl).is Tryz.underlying24 rfl (by kernel_rfl)) rfl ?_
      exact ⟨_, _, _, rfl, ((R9_.z 0 rfl).as (qceil_of r)).tight HL.out, R9_.bel⟩
set_option maxRecDepth 100000 in
set_option maxHeartbeats 1600000 in
theorem qfrac_ {w : World} {a b : Bool} {A B : Option Addr} {n c m d : Nat} {x y : Int} {i j : Nat} {p q : Bool} (ha : ZIs w a A n c x i p) (hb : ZIs w b B m d y j q) {k : Nat} (hi : i ≤ k) (hj : j ≤ k) (hk : k ≤ 65536) (h1 : 1 ≤ k) {r : Rat} (hr : qv x y = r) : Calls Tryz.prog 16 #[.agg #[.bool a, .slice A n c, .bool b, .slice B m d]] w fun e w' => ∃ b3 A3 n3 b4 A4 n4, e = .returned (.agg #[.bool b3, .slice A3 n3 n3, .bool b4, .slice A4 n4 n4]) ∧ ZIs w' b3 A3 n3 n3 ((qfrac r).num) (2 * k + 1) true ∧ ZIs w' b4 A4 n4 n4 (((qfrac r).den : Nat) : Int) (2 * k + 1) true ∧ Below w.heap.size w w' := by
  have R0 := (((((Env.nil_ w).add ha).add hb)).alloc 26 #[.bool a, .slice A n c, .bool b, .slice B m d] (g := w.heap.size) rfl rfl).alloc 26 #[.bool false, .slice none 0 0, .bool false, .slice none 0 0] (g := w.heap.size + 1) (by simp) rfl
  have HR := Lib.hid hr
  clear hr
  go_enter Tryz.func16, Tryz.ntmps16
  go_wp2_with fail
  have D1 := R0.drew
  have s1 := And.intro (D1.cell 1 0 rfl rfl) (And.intro (D1.cell 1 1 rfl rfl) (And.intro (D1.cell 1 2 rfl rfl) (D1.cell 1 3 rfl rfl)))
  refine wp_region_late [6] (fun w' => w'.cell? ⟨w.heap.size, 0, none⟩ = some (.bool a) ∧ w'.cell? ⟨w.heap.size, 1, none⟩ = some (.slice A n c) ∧ w'.cell? ⟨w.heap.size, 2, none⟩ = some (.bool b) ∧ w'.cell? ⟨w.heap.size, 3, none⟩ = some (.slice B m d)) (by kernel_rfl) ?_
  refine wpAnyL_take (i := 0) (v := .agg #[.bool a, .slice A n c, .bool b, .slice B m d]) rfl (by kernel_rfl) (by kernel_rfl) (by kernel_rfl) (by kernel_rfl) (by kernel_rfl) (fun _ _ _ h => h) (Or.inl ⟨by rfl, by rintro w' ⟨h1, h2, h3, h4⟩; go_simp⟩) s1 ?_
  try simp only [Act.put, List.setIfInBounds_toArray, List.set_cons_zero, List.set_cons_succ]
  refine wpAnyL_take (i := 1) (v := .agg #[.bool a, .slice A n c, .bool b, .slice B m d]) rfl (by kernel_rfl) (by kernel_rfl) (by kernel_rfl) (by kernel_rfl) (by kernel_rfl) (fun _ _ _ h => h) (Or.inl ⟨by rfl, by rintro w' ⟨h1, h2, h3, h4⟩; go_simp⟩) s1 ?_
  try simp only [Act.put, List.setIfInBounds_toArray, List.set_cons_zero, List.set_cons_succ]
  refine wpAnyL_one (i := 2) (by kernel_rfl) rfl (fun K hK => ?_)
  go_simp
  refine (qfloor (D1.z 1 rfl) (D1.z 0 rfl) hi hj hk h1 HR.out).mono ?_; rintro e w2 ⟨b_f, A_f, n_f, rfl, z_f, hb2⟩
  have R2 := ((D1.below hb2).add z_f)
  have s2 := And.intro (R2.cell 1 0 rfl rfl) (And.intro (R2.cell 1 1 rfl rfl) (And.intro (R2.cell 1 2 rfl rfl) (R2.cell 1 3 rfl rfl)))
  go_wp2_with fail
  refine hK.out _ _ (fun _ => s2) ?_
  clear hK K
  try simp only [Act.put, List.setIfInBounds_toArray, List.set_cons_zero, List.set_cons_succ]
  refine wpAnyL_one (i := 3) (by kernel_rfl) rfl (fun K hK => ?_)
  go_simp
  refine (qone _).mono ?_; rintro e w3 ⟨b_e, A_e, n_e, rfl, z_e, hb3⟩
  have R3 := ((R2.below hb3).add z_e)
  have s3 := And.intro (R3.cell 1 0 rfl rfl) (And.intro (R3.cell 1 1 rfl rfl) (And.intro (R3.cell 1 2 rfl rfl) (R3.cell 1 3 rfl rfl)))
  go_wp2_with fail
  refine hK.out _ _ (fun _ => s3) ?_
  clear hK K
  try simp only [Act.put, List.setIfInBounds_toArray, List.set_cons_zero, List.set_cons_succ]
  refine wpAnyL_one (i := 4) (by kernel_rfl) rfl (fun K hK => ?_)
  go_simp
  refine hK.out _ _ (fun _ => s3) ?_
  clear hK K
  try simp only [Act.put, List.setIfInBounds_toArray, List.set_cons_zero, List.set_cons_succ]
  refine wpAnyL_one (i := 5) (by kernel_rfl) rfl (fun K hK => ?_)
  go_simp
  refine (qsub (R3.z 3 rfl) (R3.z 2 rfl) (R3.z 1 rfl) (R3.z 0 rfl) hi hj (Nat.le_refl _) h1 hk h1 HR.out (qv_int r.floor)).mono ?_; rintro e w4 ⟨b_p, A_p, n_p, b_q, A_q, n_q, rfl, z_p, z_q, hb4⟩
  have R4 := (((R3.below hb4).add z_p).add z_q)
  have s4 := And.intro (R4.cell 1 0 rfl rfl) (And.intro (R4.cell 1 1 rfl rfl) (And.intro (R4.cell 1 2 rfl rfl) (R4.cell 1 3 rfl rfl)))
  go_wp2_with fail
  refine hK.out _ _ (fun _ => s4) ?_
  clear hK K
  try simp only [Act.put, List.setIfInBounds_toArray, List.set_cons_zero, List.set_cons_succ]
  have fcr0 := R4.cell 0 0 rfl rfl
  have ffr0 := R4.frozen 0 0 rfl
  have fcr1 := R4.cell 0 1 rfl rfl
  have ffr1 := R4.frozen 0 1 rfl
  have fcr2 := R4.cell 0 2 rfl rfl
  have ffr2 := R4.frozen 0 2 rfl
  have fcr3 := R4.cell 0 3 rfl rfl
  have ffr3 := R4.frozen 0 3 rfl
  refine wpAnyL_one (i := 6) (by kernel_rfl) rfl (fun K hK => ?_)
  go_simp
  refine hK.out _ _ (fun h => absurd (by simp) h) ?_
  clear hK K
  try simp only [Act.put, List.setIfInBounds_toArray, List.set_cons_zero, List.set_cons_succ]
  refine wpAnyL_done (by kernel_rfl) ?_ _
  clear fcr0 ffr0 fcr1 ffr1 fcr2 ffr2 fcr3 ffr3
  have R5 := (R4.st4 0 (.bool b_p) (.slice A_p n_p n_p) (.bool b_q) (.slice A_q n_q n_q) rfl rfl rfl rfl rfl)
  generalize ((((w4.setCell ⟨w.heap.size + 1, 0, none⟩ (.bool b_p)).setCell ⟨w.heap.size + 1, 1, none⟩ (.slice A_p n_p n_p)).setCell ⟨w.heap.size + 1, 2, none⟩ (.bool b_q)).setCell ⟨w.heap.size + 1, 3, none⟩ (.slice A_q n_q n_q)) = w5 at *
  go_wp2_with fail
  refine bodyPost_ret (results_cell_row rfl _ _ (w.heap.size + 1) 26 #[.bool b_p, .slice A_p n_p n_p, .bool b_q, .slice A_q n_q n_q] (0, 0) _ rfl (R5.b 0 rfl).is Tryz.underlying26 rfl (by kernel_rfl)) rfl ?_
  exact ⟨_, _, _, _, _, _, rfl, (R5.z 1 rfl), (R5.z 0 rfl), R5.bel⟩
set_option maxRecDepth 100000 in
set_option maxHeartbeats 3200000 in
theorem qtext {w : World} {a b : Bool} {A B : Option Addr} {n c m d : Nat} {x y : Int} {i j : Nat} {p q : Bool} (ha : ZIs w a A n c x i p) (hb : ZIs w b B m d y j q) {k : Nat} (hi : i ≤ k) (hj : j ≤ k) (hk : k ≤ 65536) (h1 : 1 ≤ k) {r : Rat} (hr : qv x y = r) : Calls Tryz.prog 45 #[.agg #[.bool a, .slice A n c, .bool b, .slice B m d]] w fun e w' => e = .returned (.string (str (qtx r))) ∧ Below w.heap.size w w' := by
  have R0 := ((((Env.nil_ w).add ha).add hb)).alloc 26 #[.bool a, .slice A n c, .bool b, .slice B m d] (g := w.heap.size) rfl rfl
  have HR := Lib.hid hr
  clear hr
  go_enter Tryz.func45, Tryz.ntmps45
  have k1a0 := R0.cell 0 0 rfl rfl
  have k1a1 := R0.cell 0 1 rfl rfl
  have k1a2 := R0.cell 0 2 rfl rfl
  have k1a3 := R0.cell 0 3 rfl rfl
  go_wp2_with fail
  clear k1a0 k1a1 k1a2 k1a3
  refine (qplain (K := k) (R0.z 1 rfl) (R0.z 0 rfl) (by omega) (by omega) (by omega) h1 HR.out).mono ?_; rintro e w1 ⟨b_x, A_x, n_x, b_x_, A_x_, n_x_, rfl, z_x, z_x_, hb1⟩
  have R1 := (((R0.below hb1).add z_x).add z_x_)
  have za0 := R1.cell 0 0 rfl rfl
  have za1 := R1.cell 0 1 rfl rfl
  have za2 := R1.cell 0 2 rfl rfl
  have za3 := R1.cell 0 3 rfl rfl
  have zfa0 := R1.frozen 0 0 rfl
  have zfa1 := R1.frozen 0 1 rfl
  have zfa2 := R1.frozen 0 2 rfl
  have zfa3 := R1.frozen 0 3 rfl
  go_wp2_with fail
  clear za0 za1 za2 za3 zfa0 zfa1 zfa2 zfa3
  have R2 := (R1.st4 0 (.bool b_x) (.slice A_x n_x n_x) (.bool b_x_) (.slice A_x_ n_x_ n_x_) rfl rfl rfl rfl rfl)
  generalize ((((w1.setCell ⟨w.heap.size, 0, none⟩ (.bool b_x)).setCell ⟨w.heap.size, 1, none⟩ (.slice A_x n_x n_x)).setCell ⟨w.heap.size, 2, none⟩ (.bool b_x_)).setCell ⟨w.heap.size, 3, none⟩ (.slice A_x_ n_x_ n_x_)) = w2 at *
  have hl1 := ztx_most (R2.z 1 rfl).lt
  have hl2 := ztx_most (R2.z 0 rfl).lt
  have ad1 := fun w0 => str_add (P := Tryz.prog) (ztx r.num) [47] (by simp; omega) w0
  have ad2 := fun w0 => str_add (P := Tryz.prog) (ztx r.num ++ [47]) (ztx (r.den : Int)) (by simp; omega) w0
  rw [show str [47] = ⟨#[47]⟩ from rfl] at ad1
  have hqt : qtx r = if r.den = 1 then ztx r.num else ztx r.num ++ 47 :: ztx (r.den : Int) := rfl
  have HQ := Lib.hid hqt
  clear hl1 hl2 hqt
  by_cases h1d : r.den = 1
  · have HD := Lib.hid h1d
    clear h1d
    have D3 := R2.drew
    have s3 := And.intro (D3.cell 0 0 rfl rfl) (And.intro (D3.cell 0 1 rfl rfl) (And.intro (D3.cell 0 2 rfl rfl) (D3.cell 0 3 rfl rfl)))
    refine wp_region_late [] (fun w' => w'.cell? ⟨w.heap.size, 0, none⟩ = some (.bool b_x) ∧ w'.cell? ⟨w.heap.size, 1, none⟩ = some (.slice A_x n_x n_x) ∧ w'.cell? ⟨w.heap.size, 2, none⟩ = some (.bool b_x_) ∧ w'.cell? ⟨w.heap.size, 3, none⟩ = some (.slice A_x_ n_x_ n_x_)) (by kernel_rfl) ?_
    refine wpAnyL_take (i := 0) (v := ?_) rfl (by kernel_rfl) (by kernel_rfl) (by kernel_rfl) (by kernel_rfl) (by kernel_rfl) (fun _ _ _ h => h) (Or.inl ⟨by kernel_rfl, ?_⟩) s3 ?_
    rotate_left
    · rintro w' ⟨h1, h2, h3, h4⟩; go_simp; (try with_reducible rfl)
    try simp only [Act.put, List.setIfInBounds_toArray, List.set_cons_zero, List.set_cons_succ]
    refine wpAnyL_take (i := 1) (v := .agg #[.bool b_x_, .slice A_x_ n_x_ n_x_]) rfl (by kernel_rfl) (by kernel_rfl) (by kernel_rfl) (by kernel_rfl) (by kernel_rfl) (fun _ _ _ h => h) (Or.inl ⟨by rfl, by rintro w' ⟨h1, h2, h3, h4⟩; go_simp⟩) s3 ?_
    try simp only [Act.put, List.setIfInBounds_toArray, List.set_cons_zero, List.set_cons_succ]
    refine wpAnyL_one (i := 2) (by kernel_rfl) rfl (fun K hK => ?_)
    go_simp
    refine (qone _).mono ?_; rintro e w4 ⟨b_e, A_e, n_e, rfl, z_e, hb4⟩
    have R4 := ((D3.below hb4).add z_e)
    have s4 := And.intro (R4.cell 0 0 rfl rfl) (And.intro (R4.cell 0 1 rfl rfl) (And.intro (R4.cell 0 2 rfl rfl) (R4.cell 0 3 rfl rfl)))
    go_wp2_with fail
    refine hK.out _ _ (fun _ => s4) ?_
    clear hK K
    try simp only [Act.put, List.setIfInBounds_toArray, List.set_cons_zero, List.set_cons_succ]
    refine wpAnyL_one (i := 3) (by kernel_rfl) rfl (fun K hK => ?_)
    go_simp
    refine (zcmp_is (R4.z 1 rfl) (R4.z 0 rfl) (by omega) (by omega) 0 (by rw [HD.out]; exact zcmp_eq 1)).mono ?_; rintro e w5 ⟨rfl, hb5⟩
    have R5 := (R4.below hb5)
    have s5 := And.intro (R5.cell 0 0 rfl rfl) (And.intro (R5.cell 0 1 rfl rfl) (And.intro (R5.cell 0 2 rfl rfl) (R5.cell 0 3 rfl rfl)))
    go_wp2_with fail
    refine hK.out _ _ (fun _ => s5) ?_
    clear hK K
    try simp only [Act.put, List.setIfInBounds_toArray, List.set_cons_zero, List.set_cons_succ]
    refine wpAnyL_one (i := 4) (by kernel_rfl) rfl (fun K hK => ?_)
    go_simp
    refine hK.out _ _ (fun _ => s5) ?_
    clear hK K
    try simp only [Act.put, List.setIfInBounds_toArray, List.set_cons_zero, List.set_cons_succ]
    refine wpAnyL_done (by kernel_rfl) ?_ _
    have k6a0 := R5.cell 0 0 rfl rfl
    have k6a1 := R5.cell 0 1 rfl rfl
    have k6a2 := R5.cell 0 2 rfl rfl
    have k6a3 := R5.cell 0 3 rfl rfl
    go_wp2_with fail
    clear k6a0 k6a1 k6a2 k6a3
    refine (ztext (R5.z 2 rfl) (by omega)).mono ?_; rintro e w6 ⟨rfl, hb6⟩
    have R6 := (R5.below hb6)
    go_wp2_with fail
    go_ret
    rw [HQ.out, if_pos HD.out]
    exact ⟨rfl, R6.bel⟩
  · have HD := Lib.hid h1d
    clear h1d
    have D3 := R2.drew
    have s3 := And.intro (D3.cell 0 0 rfl rfl) (And.intro (D3.cell 0 1 rfl rfl) (And.intro (D3.cell 0 2 rfl rfl) (D3.cell 0 3 rfl rfl)))
    refine wp_region_late [] (fun w' => w'.cell? ⟨w.heap.size, 0, none⟩ = some (.bool b_x) ∧ w'.cell? ⟨w.heap.size, 1, none⟩ = some (.slice A_x n_x n_x) ∧ w'.cell? ⟨w.heap.size, 2, none⟩ = some (.bool b_x_) ∧ w'.cell? ⟨w.heap.size, 3, none⟩ = some (.slice A_x_ n_x_ n_x_)) (by kernel_rfl) ?_
    refine wpAnyL_take (i := 0) (v := ?_) rfl (by kernel_rfl) (by kernel_rfl) (by kernel_rfl) (by kernel_rfl) (by kernel_rfl) (fun _ _ _ h => h) (Or.inl ⟨by kernel_rfl, ?_⟩) s3 ?_
    rotate_left
    · rintro w' ⟨h1, h2, h3, h4⟩; go_simp; (try with_reducible rfl)
    try simp only [Act.put, List.setIfInBounds_toArray, List.set_cons_zero, List.set_cons_succ]
    refine wpAnyL_take (i := 1) (v := .agg #[.bool b_x_, .slice A_x_ n_x_ n_x_]) rfl (by kernel_rfl) (by kernel_rfl) (by kernel_rfl) (by kernel_rfl) (by kernel_rfl) (fun _ _ _ h => h) (Or.inl ⟨by rfl, by rintro w' ⟨h1, h2, h3, h4⟩; go_simp⟩) s3 ?_
    try simp only [Act.put, List.setIfInBounds_toArray, List.set_cons_zero, List.set_cons_succ]
    refine wpAnyL_one (i := 2) (by kernel_rfl) rfl (fun K hK => ?_)
    go_simp
    refine (qone _).mono ?_; rintro e w4 ⟨b_e, A_e, n_e, rfl, z_e, hb4⟩
    have R4 := ((D3.below hb4).add z_e)
    have s4 := And.intro (R4.cell 0 0 rfl rfl) (And.intro (R4.cell 0 1 rfl rfl) (And.intro (R4.cell 0 2 rfl rfl) (R4.cell 0 3 rfl rfl)))
    go_wp2_with fail
    refine hK.out _ _ (fun _ => s4) ?_
    clear hK K
    try simp only [Act.put, List.setIfInBounds_toArray, List.set_cons_zero, List.set_cons_succ]
    refine wpAnyL_one (i := 3) (by kernel_rfl) rfl (fun K hK => ?_)
    go_simp
    refine (zcmp_is (R4.z 1 rfl) (R4.z 0 rfl) (by omega) (by omega) 1 (zcmp_gt (by have := r.den_pos; have := HD.out; omega))).mono ?_; rintro e w5 ⟨rfl, hb5⟩
    have R5 := (R4.below hb5)
    have s5 := And.intro (R5.cell 0 0 rfl rfl) (And.intro (R5.cell 0 1 rfl rfl) (And.intro (R5.cell 0 2 rfl rfl) (R5.cell 0 3 rfl rfl)))
    go_wp2_with fail
    refine hK.out _ _ (fun _ => s5) ?_
    clear hK K
    try simp only [Act.put, List.setIfInBounds_toArray, List.set_cons_zero, List.set_cons_succ]
    refine wpAnyL_one (i := 4) (by kernel_rfl) rfl (fun K hK => ?_)
    go_simp
    refine hK.out _ _ (fun _ => s5) ?_
    clear hK K
    try simp only [Act.put, List.setIfInBounds_toArray, List.set_cons_zero, List.set_cons_succ]
    refine wpAnyL_done (by kernel_rfl) ?_ _
    have ka0 := R5.cell 0 0 rfl rfl
    have ka1 := R5.cell 0 1 rfl rfl
    have ka2 := R5.cell 0 2 rfl rfl
    have ka3 := R5.cell 0 3 rfl rfl
    go_wp2_with fail
    clear ka0 ka1 ka2 ka3
    have D6 := R5.drew
    have s6 := And.intro (D6.cell 0 0 rfl rfl) (And.intro (D6.cell 0 1 rfl rfl) (And.intro (D6.cell 0 2 rfl rfl) (D6.cell 0 3 rfl rfl)))
    refine wp_region_late [] (fun w' => w'.cell? ⟨w.heap.size, 0, none⟩ = some (.bool b_x) ∧ w'.cell? ⟨w.heap.size, 1, none⟩ = some (.slice A_x n_x n_x) ∧ w'.cell? ⟨w.heap.size, 2, none⟩ = some (.bool b_x_) ∧ w'.cell? ⟨w.heap.size, 3, none⟩ = some (.slice A_x_ n_x_ n_x_)) (by kernel_rfl) ?_
    refine wpAnyL_take (i := 0) (v := ?_) rfl (by kernel_rfl) (by kernel_rfl) (by kernel_rfl) (by kernel_rfl) (by kernel_rfl) (fun _ _ _ h => h) (Or.inl ⟨by kernel_rfl, ?_⟩) s6 ?_
    rotate_left
    · rintro w' ⟨h1, h2, h3, h4⟩; go_simp; (try with_reducible rfl)
    try simp only [Act.put, List.setIfInBounds_toArray, List.set_cons_zero, List.set_cons_succ]
    refine wpAnyL_take (i := 1) (v := .agg #[.bool b_x, .slice A_x n_x n_x]) rfl (by kernel_rfl) (by kernel_rfl) (by kernel_rfl) (by kernel_rfl) (by kernel_rfl) (fun _ _ _ h => h) (Or.inl ⟨by rfl, by rintro w' ⟨h1, h2, h3, h4⟩; go_simp⟩) s6 ?_
    try simp only [Act.put, List.setIfInBounds_toArray, List.set_cons_zero, List.set_cons_succ]
    refine wpAnyL_take (i := 4) (v := ?_) rfl (by kernel_rfl) (by kernel_rfl) (by kernel_rfl) (by kernel_rfl) (by kernel_rfl) (fun _ _ _ h => h) (Or.inl ⟨by kernel_rfl, ?_⟩) s6 ?_
    rotate_left
    · rintro w' ⟨h1, h2, h3, h4⟩; go_simp; (try with_reducible rfl)
    try simp only [Act.put, List.setIfInBounds_toArray, List.set_cons_zero, List.set_cons_succ]
    refine wpAnyL_take (i := 5) (v := .agg #[.bool b_x_, .slice A_x_ n_x_ n_x_]) rfl (by kernel_rfl) (by kernel_rfl) (by kernel_rfl) (by kernel_rfl) (by kernel_rfl) (fun _ _ _ h => h) (Or.inl ⟨by rfl, by rintro w' ⟨h1, h2, h3, h4⟩; go_simp⟩) s6 ?_
    try simp only [Act.put, List.setIfInBounds_toArray, List.set_cons_zero, List.set_cons_succ]
    refine wpAnyL_one (i := 2) (by kernel_rfl) rfl (fun K hK => ?_)
    go_simp
    refine (ztext (D6.z 2 rfl) (by omega)).mono ?_; rintro e w7 ⟨rfl, hb7⟩
    have R7 := (D6.below hb7)
    have s7 := And.intro (R7.cell 0 0 rfl rfl) (And.intro (R7.cell 0 1 rfl rfl) (And.intro (R7.cell 0 2 rfl rfl) (R7.cell 0 3 rfl rfl)))
    go_wp2_with fail
    refine hK.out _ _ (fun _ => s7) ?_
    clear hK K
    try simp only [Act.put, List.setIfInBounds_toArray, List.set_cons_zero, List.set_cons_succ]
    refine wpAnyL_take (i := 3) (v := ?_) rfl (by kernel_rfl) (by kernel_rfl) (by kernel_rfl) (by kernel_rfl) (by kernel_rfl) (fun _ _ _ h => h) (Or.inl ⟨by kernel_rfl, ?_⟩) s7 ?_
    rotate_left
    · rintro w' ⟨h1, h2, h3, h4⟩; go_simp; (try with_reducible rfl)
    try simp only [Act.put, List.setIfInBounds_toArray, List.set_cons_zero, List.set_cons_succ]
    refine wpAnyL_one (i := 6) (by kernel_rfl) rfl (fun K hK => ?_)
    go_simp
    refine (ztext (R7.z 1 rfl) (by omega)).mono ?_; rintro e w8 ⟨rfl, hb8⟩
    have R8 := (R7.below hb8)
    have s8 := And.intro (R8.cell 0 0 rfl rfl) (And.intro (R8.cell 0 1 rfl rfl) (And.intro (R8.cell 0 2 rfl rfl) (R8.cell 0 3 rfl rfl)))
    go_wp2_with fail
    refine hK.out _ _ (fun _ => s8) ?_
    clear hK K
    try simp only [Act.put, List.setIfInBounds_toArray, List.set_cons_zero, List.set_cons_succ]
    refine wpAnyL_one (i := 7) (by kernel_rfl) rfl (fun K hK => ?_)
    go_simp
    refine hK.out _ _ (fun _ => s8) ?_
    clear hK K
    try simp only [Act.put, List.setIfInBounds_toArray, List.set_cons_zero, List.set_cons_succ]
    refine wpAnyL_one (i := 8) (by kernel_rfl) rfl (fun K hK => ?_)
    go_simp
    refine hK.out _ _ (fun _ => s8) ?_
    clear hK K
    try simp only [Act.put, List.setIfInBounds_toArray, List.set_cons_zero, List.set_cons_succ]
    refine wpAnyL_done (by kernel_rfl) ?_ _
    go_wp2_with fail
    go_ret
    rw [HQ.out, if_neg HD.out]
    exact ⟨rfl, R8.bel⟩
end Go.Proofs.YticjhlbmdjijnaaGreatDoor
