/- The contracts of package ratio: Of, Plain, Cmp, Div, and what Add, Sub, Mul do of two plain ones. No condition but the reach of a slice. -/
import Derived.Test.YticjhlbmdjijnaaGreatDoorHQB
namespace Go.Proofs.YticjhlbmdjijnaaGreatDoor
set_option linter.unusedSimpArgs false
set_option linter.unusedVariables false
open Go.RowKit

theorem qmay_yes {w : World} {a b : Bool} {A B : Option Addr} {n c m d : Nat} {x y : Int} {i j : Nat} {p q : Bool} (ha : ZIs w a A n c x i p) (hb : ZIs w b B m d y j q) (hj : j ≤ 268435456) (h : 0 < y) : Calls Tryz.prog 32 #[.agg #[.bool a, .slice A n c, .bool b, .slice B m d]] w fun e w' => e = .returned (.bool true) ∧ Below w.heap.size w w' :=
  (qmay ha hb hj).mono fun e w' ⟨h1, h2⟩ => ⟨by rw [h1, decide_eq_true h], h2⟩
theorem qmay_no {w : World} {a b : Bool} {A B : Option Addr} {n c m d : Nat} {x y : Int} {i j : Nat} {p q : Bool} (ha : ZIs w a A n c x i p) (hb : ZIs w b B m d y j q) (hj : j ≤ 268435456) (h : ¬ 0 < y) : Calls Tryz.prog 32 #[.agg #[.bool a, .slice A n c, .bool b, .slice B m d]] w fun e w' => e = .returned (.bool false) ∧ Below w.heap.size w w' :=
  (qmay ha hb hj).mono fun e w' ⟨h1, h2⟩ => ⟨by rw [h1, decide_eq_false h], h2⟩
set_option maxRecDepth 100000 in
set_option maxHeartbeats 1600000 in
theorem qplain {w : World} {a b : Bool} {A B : Option Addr} {n c m d : Nat} {x y : Int} {i j : Nat} {p q : Bool} (ha : ZIs w a A n c x i p) (hb : ZIs w b B m d y j q) {K : Nat} (hi : i ≤ K) (hj : j ≤ K) (hK : K ≤ 1048576) (h1 : 1 ≤ K) {r : Rat} (hr : qv x y = r) : Calls Tryz.prog 29 #[.agg #[.bool a, .slice A n c, .bool b, .slice B m d]] w fun e w' => ∃ b3 A3 n3 b4 A4 n4, e = .returned (.agg #[.bool b3, .slice A3 n3 n3, .bool b4, .slice A4 n4 n4]) ∧ ZIs w' b3 A3 n3 n3 (r.num) K true ∧ ZIs w' b4 A4 n4 n4 ((r.den : Nat) : Int) K true ∧ Below w.heap.size w w' := by
  have R0 := ((((Env.nil_ w).add ha).add hb).alloc 26 #[.bool a, .slice A n c, .bool b, .slice B m d] (g := w.heap.size) rfl rfl).alloc 26 #[.bool false, .slice none 0 0, .bool false, .slice none 0 0] (g := w.heap.size + 1) (by simp) rfl
  have HR := Lib.hid hr
  clear hr
  by_cases h0 : 0 < y
  · have HR2 : Hid (Rat.divInt x y = r) := Lib.hid (by rw [← HR.out, qv_pos h0])
    go_enter Tryz.func29, Tryz.ntmps29
    have k1a0 := R0.cell 1 0 rfl rfl
    have k1a1 := R0.cell 1 1 rfl rfl
    have k1a2 := R0.cell 1 2 rfl rfl
    have k1a3 := R0.cell 1 3 rfl rfl
    go_wp2_with fail
    clear k1a0 k1a1 k1a2 k1a3
    refine (qmay_yes (R0.z 1 rfl) (R0.z 0 rfl) (by omega) h0).mono ?_; rintro e w1 ⟨rfl, hb1⟩
    have R1 := (R0.below hb1)
    have k2a0 := R1.cell 1 0 rfl rfl
    have k2a1 := R1.cell 1 1 rfl rfl
    have k2a2 := R1.cell 1 2 rfl rfl
    have k2a3 := R1.cell 1 3 rfl rfl
    go_wp2_with fail
    clear k2a0 k2a1 k2a2 k2a3
    refine (qby (R1.z 1 rfl) (R1.z 0 rfl) (by omega) (by omega) (by omega) HR2.out).mono ?_; rintro e w2 ⟨b_p, A_p, n_p, b_q, A_q, n_q, rfl, z_p, z_q, hb2⟩
    have R2 := (((R1.below hb2).add z_p).add z_q)
    have zr0 := R2.cell 0 0 rfl rfl
    have zr1 := R2.cell 0 1 rfl rfl
    have zr2 := R2.cell 0 2 rfl rfl
    have zr3 := R2.cell 0 3 rfl rfl
    have zfr0 := R2.frozen 0 0 rfl
    have zfr1 := R2.frozen 0 1 rfl
    have zfr2 := R2.frozen 0 2 rfl
    have zfr3 := R2.frozen 0 3 rfl
    go_wp2_with fail
    have R9_ := R2.st4 0 (.bool b_p) (.slice A_p n_p n_p) (.bool b_q) (.slice A_q n_q n_q) rfl rfl rfl rfl rfl
    refine bodyPost_ret (results_cell_row rfl _ _ (w.heap.size + 1) 26 #[.bool b_p, .slice A_p n_p n_p, .bool b_q, .slice A_q n_q n_q] (0, 0) _ rfl (R9_.b 0 rfl).is Tryz.underlying26 rfl (by kernel_rfl)) rfl ?_
    exact ⟨_, _, _, _, _, _, rfl, (R9_.z 1 rfl).mono (by omega), (R9_.z 0 rfl).mono (by omega), R9_.bel⟩
  · have hr0 : r = 0 := by rw [← HR.out, qv_not h0]
    subst hr0
    have H0 := Lib.hid h0
    clear h0
    go_enter Tryz.func29, Tryz.ntmps29
    have k1a0 := R0.cell 1 0 rfl rfl
    have k1a1 := R0.cell 1 1 rfl rfl
    have k1a2 := R0.cell 1 2 rfl rfl
    have k1a3 := R0.cell 1 3 rfl rfl
    go_wp2_with fail
    clear k1a0 k1a1 k1a2 k1a3
    refine (qmay_no (R0.z 1 rfl) (R0.z 0 rfl) (by omega) (by have := H0.out; omega)).mono ?_; rintro e w1 ⟨rfl, hb1⟩
    have R1 := (R0.below hb1)
    have k2a0 := R1.cell 1 0 rfl rfl
    have k2a1 := R1.cell 1 1 rfl rfl
    have k2a2 := R1.cell 1 2 rfl rfl
    have k2a3 := R1.cell 1 3 rfl rfl
    go_wp2_with fail
    clear k2a0 k2a1 k2a2 k2a3
    refine (qzero _).mono ?_; rintro e w2 ⟨b_p, A_p, n_p, b_q, A_q, n_q, rfl, z_p, z_q, hb2⟩
    have R2 := (((R1.below hb2).add z_p).add z_q)
    have zr0 := R2.cell 0 0 rfl rfl
    have zr1 := R2.cell 0 1 rfl rfl
    have zr2 := R2.cell 0 2 rfl rfl
    have zr3 := R2.cell 0 3 rfl rfl
    have zfr0 := R2.frozen 0 0 rfl
    have zfr1 := R2.frozen 0 1 rfl
    have zfr2 := R2.frozen 0 2 rfl
    have zfr3 := R2.frozen 0 3 rfl
    go_wp2_with fail
    have R9_ := R2.st4 0 (.bool b_p) (.slice A_p n_p n_p) (.bool b_q) (.slice A_q n_q n_q) rfl rfl rfl rfl rfl
    refine bodyPost_ret (results_cell_row rfl _ _ (w.heap.size + 1) 26 #[.bool b_p, .slice A_p n_p n_p, .bool b_q, .slice A_q n_q n_q] (0, 0) _ rfl (R9_.b 0 rfl).is Tryz.underlying26 rfl (by kernel_rfl)) rfl ?_
    exact ⟨_, _, _, _, _, _, rfl, (R9_.z 1 rfl).mono (by omega), (R9_.z 0 rfl).mono (by omega), R9_.bel⟩
set_option maxRecDepth 100000 in
set_option maxHeartbeats 1600000 in
theorem qof (x y : Int) (hx : -9223372036854775808 ≤ x ∧ x ≤ 9223372036854775807) (hy : -9223372036854775808 ≤ y ∧ y ≤ 9223372036854775807) (w : World) {r : Rat} (hr : Rat.divInt x y = r) {ok : Bool} (hok : decide (y ≠ 0) = ok) : Calls Tryz.prog 14 #[.int .i64 x, .int .i64 y] w fun e w' => ∃ b3 A3 n3 b4 A4 n4, e = .returned (.tuple #[.agg #[.bool b3, .slice A3 n3 n3, .bool b4, .slice A4 n4 n4], .bool ok]) ∧ ZIs w' b3 A3 n3 n3 (r.num) 2 true ∧ ZIs w' b4 A4 n4 n4 ((r.den : Nat) : Int) 2 true ∧ Below w.heap.size w w' := by
  have R0 := (Env.nil_ w).alloc 26 #[.bool false, .slice none 0 0, .bool false, .slice none 0 0] (g := w.heap.size) rfl rfl
  have z1 := fun w0 => zof x w0 hx.1 hx.2
  have z2 := fun w0 => zof y w0 hy.1 hy.2
  clear hx hy
  have HR := Lib.hid hr
  clear hr
  by_cases h0 : y = 0
  · subst h0
    have hr0 : r = 0 := by rw [← HR.out, Rat.divInt_zero]
    subst hr0
    obtain rfl : false = ok := hok
    go_enter Tryz.func14, Tryz.ntmps14
    go_wp2_with fail
    refine (qzero _).mono ?_; rintro e w1 ⟨b_p, A_p, n_p, b_q, A_q, n_q, rfl, z_p, z_q, hb1⟩
    have R1 := (((R0.below hb1).add z_p).add z_q)
    have zr0 := R1.cell 0 0 rfl rfl
    have zr1 := R1.cell 0 1 rfl rfl
    have zr2 := R1.cell 0 2 rfl rfl
    have zr3 := R1.cell 0 3 rfl rfl
    have zfr0 := R1.frozen 0 0 rfl
    have zfr1 := R1.frozen 0 1 rfl
    have zfr2 := R1.frozen 0 2 rfl
    have zfr3 := R1.frozen 0 3 rfl
    go_wp2_with fail
    have R9_ := R1.st4 0 (.bool b_p) (.slice A_p n_p n_p) (.bool b_q) (.slice A_q n_q n_q) rfl rfl rfl rfl rfl
    refine bodyPost_ret (results_row_tmp rfl _ _ (w.heap.size) 26 #[.bool b_p, .slice A_p n_p n_p, .bool b_q, .slice A_q n_q n_q] (0, 0) _ rfl (R9_.b 0 rfl).is Tryz.underlying26 rfl (by kernel_rfl)) rfl ?_
    exact ⟨_, _, _, _, _, _, rfl, (R9_.z 1 rfl).mono (by omega), (R9_.z 0 rfl).mono (by omega), R9_.bel⟩
  · obtain rfl : true = ok := by rw [← hok]; exact (decide_eq_true h0).symm
    have hyb : (y == 0) = false := by simpa using h0
    go_enter Tryz.func14, Tryz.ntmps14
    go_wp2_with fail
    refine (z1 _).mono ?_; rintro e w1 ⟨b_x, A_x, n_x, rfl, z_x, hb1⟩
    have R1 := ((R0.below hb1).add z_x)
    go_wp2_with fail
    refine (z2 _).mono ?_; rintro e w2 ⟨b_y, A_y, n_y, rfl, z_y, hb2⟩
    have R2 := ((R1.below hb2).add z_y)
    go_wp2_with fail
    refine (qby (R2.z 1 rfl) (R2.z 0 rfl) (by omega) (by omega) h0 HR.out).mono ?_; rintro e w3 ⟨b_p, A_p, n_p, b_q, A_q, n_q, rfl, z_p, z_q, hb3⟩
    have R3 := (((R2.below hb3).add z_p).add z_q)
    have zr0 := R3.cell 0 0 rfl rfl
    have zr1 := R3.cell 0 1 rfl rfl
    have zr2 := R3.cell 0 2 rfl rfl
    have zr3 := R3.cell 0 3 rfl rfl
    have zfr0 := R3.frozen 0 0 rfl
    have zfr1 := R3.frozen 0 1 rfl
    have zfr2 := R3.frozen 0 2 rfl
    have zfr3 := R3.frozen 0 3 rfl
    go_wp2_with fail
    have R9_ := R3.st4 0 (.bool b_p) (.slice A_p n_p n_p) (.bool b_q) (.slice A_q n_q n_q) rfl rfl rfl rfl rfl
    refine bodyPost_ret (results_row_tmp rfl _ _ (w.heap.size) 26 #[.bool b_p, .slice A_p n_p n_p, .bool b_q, .slice A_q n_q n_q] (0, 0) _ rfl (R9_.b 0 rfl).is Tryz.underlying26 rfl (by kernel_rfl)) rfl ?_
    exact ⟨_, _, _, _, _, _, rfl, (R9_.z 1 rfl).mono (by omega), (R9_.z 0 rfl).mono (by omega), R9_.bel⟩
end Go.Proofs.YticjhlbmdjijnaaGreatDoor
