/- The contracts of package ratio: one, zero, May, by, Of, Plain. No condition but the reach of a slice. -/
import Derived.Test.YticjhlbmdjijnaaGreatDoorHQ
namespace Go.Proofs.YticjhlbmdjijnaaGreatDoor
set_option linter.unusedSimpArgs false
set_option linter.unusedVariables false
open Go.RowKit

set_option maxRecDepth 100000 in
set_option maxHeartbeats 400000 in
theorem qone (w : World) : Calls Tryz.prog 52 #[] w fun e w' => ∃ b3 A3 n3, e = .returned (.agg #[.bool b3, .slice A3 n3 n3]) ∧ ZIs w' b3 A3 n3 n3 1 1 true ∧ Below w.heap.size w w' := by
  have h1 := fun w0 => zof 1 w0 (by decide) (by decide)
  have R0 := (Env.nil_ w).alloc 24 #[.bool false, .slice none 0 0] (g := w.heap.size) rfl rfl
  go_enter Tryz.func52, Tryz.ntmps52
  go_wp2_with fail
  refine (h1 _).mono ?_; rintro e w1 ⟨b_x, A_x, n_x, rfl, z_x, hb1⟩
  have R1 := ((R0.below hb1).add z_x)
  have kr0 := R1.cell 0 0 rfl rfl
  have kr1 := R1.cell 0 1 rfl rfl
  have fr0 := R1.frozen 0 0 rfl
  have fr1 := R1.frozen 0 1 rfl
  go_wp2_with fail
  have R9 := R1.st2 0 (.bool b_x) (.slice A_x n_x n_x) rfl rfl rfl
  refine bodyPost_ret (results_cell_row rfl _ _ (w.heap.size) 24 #[.bool b_x, .slice A_x n_x n_x] (0, 0) _ rfl (R9.b 0 rfl).is Tryz.underlying24 rfl (by kernel_rfl)) rfl ?_
  exact ⟨b_x, A_x, n_x, rfl, (R9.z 0 rfl).tight (by decide), R9.bel⟩
set_option maxRecDepth 100000 in
set_option maxHeartbeats 400000 in
theorem qzero (w : World) : Calls Tryz.prog 49 #[] w fun e w' => ∃ b3 A3 n3 b4 A4 n4, e = .returned (.agg #[.bool b3, .slice A3 n3 n3, .bool b4, .slice A4 n4 n4]) ∧ ZIs w' b3 A3 n3 n3 ((0 : Rat).num) 1 true ∧ ZIs w' b4 A4 n4 n4 (((0 : Rat).den : Nat) : Int) 1 true ∧ Below w.heap.size w w' := by
  have R0 := (Env.nil_ w).alloc 26 #[.bool false, .slice none 0 0, .bool false, .slice none 0 0] (g := w.heap.size) rfl rfl
  go_enter Tryz.func49, Tryz.ntmps49
  go_wp2_with fail
  refine (qone _).mono ?_; rintro e w1 ⟨b_x, A_x, n_x, rfl, z_x, hb1⟩
  have R1 := ((R0.below hb1).add z_x)
  have kr0 := R1.cell 0 0 rfl rfl
  have kr1 := R1.cell 0 1 rfl rfl
  have kr2 := R1.cell 0 2 rfl rfl
  have kr3 := R1.cell 0 3 rfl rfl
  have fr0 := R1.frozen 0 0 rfl
  have fr1 := R1.frozen 0 1 rfl
  have fr2 := R1.frozen 0 2 rfl
  have fr3 := R1.frozen 0 3 rfl
  go_wp2_with fail
  have R9 := R1.st4 0 (.bool false) (.slice none 0 0) (.bool b_x) (.slice A_x n_x n_x) rfl rfl rfl rfl rfl
  refine bodyPost_ret (results_cell_row rfl _ _ (w.heap.size) 26 #[.bool false, .slice none 0 0, .bool b_x, .slice A_x n_x n_x] (0, 0) _ rfl (R9.b 0 rfl).is Tryz.underlying26 rfl (by kernel_rfl)) rfl ?_
  exact ⟨false, none, 0, b_x, A_x, n_x, rfl, ZIs.nil_ .., R9.z 0 rfl, R9.bel⟩
set_option maxRecDepth 100000 in
set_option maxHeartbeats 800000 in
theorem qmay {w : World} {a b : Bool} {A B : Option Addr} {n c m d : Nat} {x y : Int} {i j : Nat} {p q : Bool} (ha : ZIs w a A n c x i p) (hb : ZIs w b B m d y j q) (hj : j ≤ 268435456) : Calls Tryz.prog 32 #[.agg #[.bool a, .slice A n c, .bool b, .slice B m d]] w fun e w' => e = .returned (.bool (decide (0 < y))) ∧ Below w.heap.size w w' := by
  have R0 := ((Env.nil_ w).add hb).alloc 26 #[.bool a, .slice A n c, .bool b, .slice B m d] (g := w.heap.size) rfl rfl
  go_enter Tryz.func32, Tryz.ntmps32
  have k1a0 := R0.cell 0 0 rfl rfl
  have k1a1 := R0.cell 0 1 rfl rfl
  have k1a2 := R0.cell 0 2 rfl rfl
  have k1a3 := R0.cell 0 3 rfl rfl
  go_wp2_with fail
  clear k1a0 k1a1 k1a2 k1a3
  refine (zplain (K := j) (R0.z 0 rfl) (by omega) (Nat.le_refl _)).mono ?_; rintro e w1 ⟨b_x, A_x, n_x, rfl, z_x, hb1⟩
  have R1 := (((R0.below hb1).add z_x).alloc 24 #[.bool b_x, .slice A_x n_x n_x] (g := w1.heap.size) rfl rfl)
  have hz := (R1.z 0 rfl).zero_iff
  have hn := (R1.z 0 rfl).neg_b
  have hd : decide (0 < y) = (decide (0 < n_x) && !b_x) := by rw [← hn]; by_cases h1 : y < 0 <;> by_cases h2 : y = 0 <;> simp [h1, h2] at hz ⊢ <;> omega
  have HD := Lib.hid hd
  clear hz hn hd
  have kd0 := R1.cell 0 0 rfl rfl
  have kd1 := R1.cell 0 1 rfl rfl
  by_cases h0 : 0 < n_x
  · have h01 : (0 : Int) < (n_x : Int) := by omega
    go_wp2_with fail
    go_ret
    rw [HD.out, decide_eq_true h0]
    exact ⟨rfl, R1.bel⟩
  · have h01 : ¬ (0 : Int) < (n_x : Int) := by omega
    go_wp2_with fail
    go_ret
    rw [HD.out, decide_eq_false h0]
    exact ⟨rfl, R1.bel⟩
end Go.Proofs.YticjhlbmdjijnaaGreatDoor
