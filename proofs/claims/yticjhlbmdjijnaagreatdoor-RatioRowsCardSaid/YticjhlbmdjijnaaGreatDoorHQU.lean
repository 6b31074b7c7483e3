/- The contracts of heijunkaref03: Floor, Ceil, Frac, Text, Bytes, Read. No condition but the reach of a slice. -/
import Derived.Test.YticjhlbmdjijnaaGreatDoorHQT
namespace Go.Proofs.YticjhlbmdjijnaaGreatDoor
set_option linter.unusedSimpArgs false
set_option linter.unusedVariables false
open Go.RowKit

theorem str_eq_false {l : List Nat} {c : UInt8} (h : str l ≠ ⟨#[c]⟩) : ((str l).toList == [c]) = false := by
  rw [beq_eq_false_iff_ne]
  intro e
  rw [ByteArray.toList_eq] at e
  apply h
  generalize str l = s at *
  cases s with
  | mk d => congr 1; exact Array.toList_inj.1 e
set_option maxRecDepth 100000 in
set_option maxHeartbeats 1600000 in
theorem rqfloor {w : World} {a b : Bool} {A B : Option Addr} {n c m d : Nat} {x y : Int} {i j : Nat} {p q : Bool} (ha : ZIs w a A n c x i p) (hb : ZIs w b B m d y j q) {k : Nat} (hi : i ≤ k) (hj : j ≤ k) (hk : k ≤ 4096) (h1 : 1 ≤ k) {r : Rat} (hr : qv x y = r) : Calls Tryz.prog 19 #[.agg #[.bool a, .slice A n c, .bool b, .slice B m d]] w fun e w' => ∃ b3 A3 n3 c3, e = .returned (.agg #[.bool b3, .slice A3 n3 c3]) ∧ ZIs w' b3 A3 n3 c3 (r.floor) k true ∧ Below w.heap.size w w' := by
  have R0 := (((((Env.nil_ w).add ha).add hb)).alloc 26 #[.bool a, .slice A n c, .bool b, .slice B m d] (g := w.heap.size) rfl rfl).alloc 24 #[.bool false, .slice none 0 0] (g := w.heap.size + 1) (by simp) rfl
  have HR := Lib.hid hr
  clear hr
  go_enter Tryz.func19, Tryz.ntmps19
  have k1a0 := R0.cell 1 0 rfl rfl
  have k1a1 := R0.cell 1 1 rfl rfl
  have k1a2 := R0.cell 1 2 rfl rfl
  have k1a3 := R0.cell 1 3 rfl rfl
  go_wp2_with fail
  clear k1a0 k1a1 k1a2 k1a3
  refine (rqplain (K := k) (R0.z 1 rfl) (R0.z 0 rfl) (by omega) (by omega) (by omega) h1 HR.out).mono ?_; rintro e w1 ⟨b_x, A_x, n_x, c_x, b_x_, A_x_, n_x_, c_x_, rfl, z_x, z_x_, hb1⟩
  have R1 := ((((R0.below hb1).add z_x).add z_x_).alloc 26 #[.bool b_x, .slice A_x n_x c_x, .bool b_x_, .slice A_x_ n_x_ c_x_] (g := w1.heap.size) rfl rfl)
  have k2x0 := R1.cell 0 0 rfl rfl
  have k2x1 := R1.cell 0 1 rfl rfl
  have k2x2 := R1.cell 0 2 rfl rfl
  have k2x3 := R1.cell 0 3 rfl rfl
  go_wp2_with fail
  clear k2x0 k2x1 k2x2 k2x3
  refine (rzdiv (K := k + 1) (L := k) (R1.z 1 rfl) (R1.z 0 rfl) (by omega) (by omega) (Int.ne_of_gt (qden_pos r)) (by omega) (by omega)).mono ?_; rintro e w2 ⟨b_q, A_q, n_q, c_q, b_u, A_u, n_u, c_u, rfl, z_q, z_u, hb2⟩
  have R2 := (((((R1.below hb2).add z_q).add z_u).alloc 24 #[.bool b_q, .slice A_q n_q c_q] (g := w2.heap.size) rfl rfl).alloc 24 #[.bool b_u, .slice A_u n_u c_u] (g := w2.heap.size + 1) (by simp) rfl)
  have HL := Lib.hid (Nat.lt_of_le_of_lt (qfloor_abs r) ((R2.z 3 rfl).lt))
  have zr0 := R2.cell 3 0 rfl rfl
  have zr1 := R2.cell 3 1 rfl rfl
  have zq0 := R2.cell 1 0 rfl rfl
  have zq1 := R2.cell 1 1 rfl rfl
  have zfr0 := R2.frozen 3 0 rfl
  have zfr1 := R2.frozen 3 1 rfl
  go_wp2_with fail
  have R9_ := R2.st2 3 (.bool b_q) (.slice A_q n_q c_q) rfl rfl rfl
  refine bodyPost_ret (results_cell_row rfl _ _ (w.heap.size + 1) 24 #[.bool b_q, .slice A_q n_q c_q] (0, 0) _ rfl (R9_.b 3 rfl).is Tryz.underlying24 rfl (by kernel_rfl)) rfl ?_
  exact ⟨_, _, _, _, rfl, ((R9_.z 1 rfl).as (qfloor_of r)).tight HL.out, R9_.bel⟩
set_option maxRecDepth 100000 in
set_option maxHeartbeats 1600000 in
theorem rqceil {w : World} {a b : Bool} {A B : Option Addr} {n c m d : Nat} {x y : Int} {i j : Nat} {p q : Bool} (ha : ZIs w a A n c x i p) (hb : ZIs w b B m d y j q) {k : Nat} (hi : i ≤ k) (hj : j ≤ k) (hk : k ≤ 4096) (h1 : 1 ≤ k) {r : Rat} (hr : qv x y = r) : Calls Tryz.prog 21 #[.agg #[.bool a, .slice A n c, .bool b, .slice B m d]] w fun e w' => ∃ b3 A3 n3 c3, e = .returned (.agg #[.bool b3, .slice A3 n3 c3]) ∧ ZIs w' b3 A3 n3 c3 (r.ceil) k true ∧ Below w.heap.size w w' := by
  have R0 := (((((Env.nil_ w).add ha).add hb)).alloc 26 #[.bool a, .slice A n c, .bool b, .slice B m d] (g := w.heap.size) rfl rfl).alloc 24 #[.bool false, .slice none 0 0] (g := w.heap.size + 1) (by simp) rfl
  have HR := Lib.hid hr
  clear hr
  have HC := Lib.hid (qceil_ref r)
  go_enter Tryz.func21, Tryz.ntmps21
  have k1a0 := R0.cell 1 0 rfl rfl
  have k1a1 := R0.cell 1 1 rfl rfl
  have k1a2 := R0.cell 1 2 rfl rfl
  have k1a3 := R0.cell 1 3 rfl rfl
  go_wp2_with fail
  clear k1a0 k1a1 k1a2 k1a3
  refine (rqplain (K := k) (R0.z 1 rfl) (R0.z 0 rfl) (by omega) (by omega) (by omega) h1 HR.out).mono ?_; rintro e w1 ⟨b_x, A_x, n_x, c_x, b_x_, A_x_, n_x_, c_x_, rfl, z_x, z_x_, hb1⟩
  have R1 := ((((R0.below hb1).add z_x).add z_x_).alloc 26 #[.bool b_x, .slice A_x n_x c_x, .bool b_x_, .slice A_x_ n_x_ c_x_] (g := w1.heap.size) rfl rfl)
  have k2x0 := R1.cell 0 0 rfl rfl
  have k2x1 := R1.cell 0 1 rfl rfl
  have k2x2 := R1.cell 0 2 rfl rfl
  have k2x3 := R1.cell 0 3 rfl rfl
  go_wp2_with fail
  clear k2x0 k2x1 k2x2 k2x3
  refine (rzdiv (K := k + 1) (L := k) (R1.z 1 rfl) (R1.z 0 rfl) (by omega) (by omega) (Int.ne_of_gt (qden_pos r)) (by omega) (by omega)).mono ?_; rintro e w2 ⟨b_q, A_q, n_q, c_q, b_u, A_u, n_u, c_u, rfl, z_q, z_u, hb2⟩
  have R2 := (((((R1.below hb2).add z_q).add z_u).alloc 24 #[.bool b_q, .slice A_q n_q c_q] (g := w2.heap.size) rfl rfl).alloc 24 #[.bool b_u, .slice A_u n_u c_u] (g := w2.heap.size + 1) (by simp) rfl)
  have HL := Lib.hid (Nat.lt_of_le_of_lt (qceil_abs r) ((R2.z 3 rfl).lt))
  have hz := (R2.z 0 rfl).zero_iff
  by_cases h0 : wmod r.num r.den = 0
  · have hc := HC.out
    rw [if_pos h0] at hc
    have HC2 := Lib.hid hc
    obtain rfl : n_u = 0 := hz.2 h0
    clear hz h0 hc
    have zr0 := R2.cell 3 0 rfl rfl
    have zr1 := R2.cell 3 1 rfl rfl
    have zq0 := R2.cell 1 0 rfl rfl
    have zq1 := R2.cell 1 1 rfl rfl
    have zu0 := R2.cell 0 0 rfl rfl
    have zu1 := R2.cell 0 1 rfl rfl
    have zfr0 := R2.frozen 3 0 rfl
    have zfr1 := R2.frozen 3 1 rfl
    go_wp2_with fail
    have R9_ := R2.st2 3 (.bool b_q) (.slice A_q n_q c_q) rfl rfl rfl
    refine bodyPost_ret (results_cell_row rfl _ _ (w.heap.size + 1) 24 #[.bool b_q, .slice A_q n_q c_q] (0, 0) _ rfl (R9_.b 3 rfl).is Tryz.underlying24 rfl (by kernel_rfl)) rfl ?_
    exact ⟨_, _, _, _, rfl, ((R9_.z 1 rfl).as ((qfloor_of r).trans HC2.out)).tight HL.out, R9_.bel⟩
  · have hc := HC.out
    rw [if_neg h0] at hc
    have HC2 := Lib.hid hc
    have hnu : (0 : Int) < (n_u : Int) := by have := mt hz.1 h0; omega
    clear hz h0 hc
    have ku0 := R2.cell 0 0 rfl rfl
    have ku1 := R2.cell 0 1 rfl rfl
    have kq0 := R2.cell 1 0 rfl rfl
    have kq1 := R2.cell 1 1 rfl rfl
    go_wp2_with fail
    clear ku0 ku1 kq0 kq1
    have ho := fun w0 => rzof 1 w0 (by decide) (by decide)
    have D3 := R2.drew
    have s3 := And.intro (D3.cell 1 0 rfl rfl) (D3.cell 1 1 rfl rfl)
    refine wp_region_late [3] (fun w' => w'.cell? ⟨w2.heap.size, 0, none⟩ = some (.bool b_q) ∧ w'.cell? ⟨w2.heap.size, 1, none⟩ = some (.slice A_q n_q c_q)) (by kernel_rfl) ?_
    refine wpAnyL_take (i := 0) (v := .agg #[.bool b_q, .slice A_q n_q c_q]) rfl (by kernel_rfl) (by kernel_rfl) (by kernel_rfl) (by kernel_rfl) (by kernel_rfl) (fun _ _ _ h => h) (Or.inl ⟨by rfl, by rintro w' ⟨h1, h2⟩; go_simp⟩) s3 ?_
    try simp only [Act.put, List.setIfInBounds_toArray, List.set_cons_zero, List.set_cons_succ]
    refine wpAnyL_one (i := 1) (by kernel_rfl) rfl (fun K hK => ?_)
    go_simp
    refine (ho _).mono ?_; rintro e w4 ⟨b_e, A_e, n_e, c_e, rfl, z_e, hb4⟩
    have R4 := ((D3.below hb4).add z_e)
    have s4 := And.intro (R4.cell 1 0 rfl rfl) (R4.cell 1 1 rfl rfl)
    go_wp2_with fail
    refine hK.out _ _ (fun _ => s4) ?_
    clear hK K
    try simp only [Act.put, List.setIfInBounds_toArray, List.set_cons_zero, List.set_cons_succ]
    refine wpAnyL_one (i := 2) (by kernel_rfl) rfl (fun K hK => ?_)
    go_simp
    refine (radd_t (K := k + 5) (R4.z 2 rfl) (R4.z 0 rfl) (by omega) (by omega) (by omega)).mono ?_; rintro e w5 ⟨b_s, A_s, n_s, c_s, rfl, z_s, hb5⟩
    have R5 := ((R4.below hb5).add z_s)
    have s5 := And.intro (R5.cell 1 0 rfl rfl) (R5.cell 1 1 rfl rfl)
    go_wp2_with fail
    refine hK.out _ _ (fun _ => s5) ?_
    clear hK K
    try simp only [Act.put, List.setIfInBounds_toArray, List.set_cons_zero, List.set_cons_succ]
    have fcr0 := R5.cell 3 0 rfl rfl
    have ffr0 := R5.frozen 3 0 rfl
    have fcr1 := R5.cell 3 1 rfl rfl
    have ffr1 := R5.frozen 3 1 rfl
    refine wpAnyL_one (i := 3) (by kernel_rfl) rfl (fun K hK => ?_)
    go_simp
    refine hK.out _ _ (fun h => absurd (by simp) h) ?_
    clear hK K
    try simp only [Act.put, List.setIfInBounds_toArray, List.set_cons_zero, List.set_cons_succ]
    refine wpAnyL_done (by kernel_rfl) ?_ _
    clear fcr0 ffr0 fcr1 ffr1
    have R6 := (R5.st2 3 (.bool b_s) (.slice A_s n_s c_s) rfl rfl rfl)
    generalize ((w5.setCell ⟨w.heap.size + 1, 0, none⟩ (.bool b_s)).setCell ⟨w.heap.size + 1, 1, none⟩ (.slice A_s n_s c_s)) = w6 at *
    go_wp2_with fail
    refine bodyPost_ret (results_cell_row rfl _ _ (w.heap.size + 1) 24 #[.bool b_s, .slice A_s n_s c_s] (0, 0) _ rfl (R6.b 3 rfl).is Tryz.underlying24 rfl (by kernel_rfl)) rfl ?_
    exact ⟨_, _, _, _, rfl, ((R6.z 0 rfl).as (by rw [qfloor_of]; exact HC2.out)).tight HL.out, R6.bel⟩
set_option maxRecDepth 100000 in
set_option maxHeartbeats 1600000 in
theorem rqfrac {w : World} {a b : Bool} {A B : Option Addr} {n c m d : Nat} {x y : Int} {i j : Nat} {p q : Bool} (ha : ZIs w a A n c x i p) (hb : ZIs w b B m d y j q) {k : Nat} (hi : i ≤ k) (hj : j ≤ k) (hk : k ≤ 4096) (h1 : 1 ≤ k) {r : Rat} (hr : qv x y = r) : Calls Tryz.prog 23 #[.agg #[.bool a, .slice A n c, .bool b, .slice B m d]] w fun e w' => ∃ b3 A3 n3 c3 b4 A4 n4 c4, e = .returned (.agg #[.bool b3, .slice A3 n3 c3, .bool b4, .slice A4 n4 c4]) ∧ ZIs w' b3 A3 n3 c3 ((qfrac r).num) k true ∧ ZIs w' b4 A4 n4 c4 (((qfrac r).den : Nat) : Int) k true ∧ Below w.heap.size w w' := by
  have R0 := (((((Env.nil_ w).add ha).add hb)).alloc 26 #[.bool a, .slice A n c, .bool b, .slice B m d] (g := w.heap.size) rfl rfl).alloc 26 #[.bool false, .slice none 0 0, .bool false, .slice none 0 0] (g := w.heap.size + 1) (by simp) rfl
  have HR := Lib.hid hr
  clear hr
  have HV := Lib.hid ((qv_pos (qden_pos r)).trans (qfrac_of r))
  go_enter Tryz.func23, Tryz.ntmps23
  have k1a0 := R0.cell 1 0 rfl rfl
  have k1a1 := R0.cell 1 1 rfl rfl
  have k1a2 := R0.cell 1 2 rfl rfl
  have k1a3 := R0.cell 1 3 rfl rfl
  go_wp2_with fail
  clear k1a0 k1a1 k1a2 k1a3
  refine (rqplain (K := k) (R0.z 1 rfl) (R0.z 0 rfl) (by omega) (by omega) (by omega) h1 HR.out).mono ?_; rintro e w1 ⟨b_x, A_x, n_x, c_x, b_x_, A_x_, n_x_, c_x_, rfl, z_x, z_x_, hb1⟩
  have R1 := ((((R0.below hb1).add z_x).add z_x_).alloc 26 #[.bool b_x, .slice A_x n_x c_x, .bool b_x_, .slice A_x_ n_x_ c_x_] (g := w1.heap.size) rfl rfl)
  have k2x0 := R1.cell 0 0 rfl rfl
  have k2x1 := R1.cell 0 1 rfl rfl
  have k2x2 := R1.cell 0 2 rfl rfl
  have k2x3 := R1.cell 0 3 rfl rfl
  go_wp2_with fail
  clear k2x0 k2x1 k2x2 k2x3
  refine (rzdiv (K := k + 1) (L := k) (R1.z 1 rfl) (R1.z 0 rfl) (by omega) (by omega) (Int.ne_of_gt (qden_pos r)) (by omega) (by omega)).mono ?_; rintro e w2 ⟨b_q, A_q, n_q, c_q, b_u, A_u, n_u, c_u, rfl, z_q, z_u, hb2⟩
  have R2 := (((((R1.below hb2).add z_q).add z_u).alloc 24 #[.bool b_q, .slice A_q n_q c_q] (g := w2.heap.size) rfl rfl).alloc 24 #[.bool b_u, .slice A_u n_u c_u] (g := w2.heap.size + 1) (by simp) rfl)
  have k3u0 := R2.cell 0 0 rfl rfl
  have k3u1 := R2.cell 0 1 rfl rfl
  have k3x0 := R2.cell 2 0 rfl rfl
  have k3x1 := R2.cell 2 1 rfl rfl
  have k3x2 := R2.cell 2 2 rfl rfl
  have k3x3 := R2.cell 2 3 rfl rfl
  go_wp2_with fail
  clear k3u0 k3u1 k3x0 k3x1 k3x2 k3x3
  refine (rqplain (K := k) (R2.z 0 rfl) (R2.z 2 rfl) (by omega) (by omega) (by omega) h1 HV.out).mono ?_; rintro e w3 ⟨b_s, A_s, n_s, c_s, b_t, A_t, n_t, c_t, rfl, z_s, z_t, hb3⟩
  have R3 := (((R2.below hb3).add z_s).add z_t)
  have zr0 := R3.cell 3 0 rfl rfl
  have zr1 := R3.cell 3 1 rfl rfl
  have zr2 := R3.cell 3 2 rfl rfl
  have zr3 := R3.cell 3 3 rfl rfl
  have zfr0 := R3.frozen 3 0 rfl
  have zfr1 := R3.frozen 3 1 rfl
  have zfr2 := R3.frozen 3 2 rfl
  have zfr3 := R3.frozen 3 3 rfl
  go_wp2_with fail
  have R9_ := R3.st4 3 (.bool b_s) (.slice A_s n_s c_s) (.bool b_t) (.slice A_t n_t c_t) rfl rfl rfl rfl rfl
  refine bodyPost_ret (results_cell_row rfl _ _ (w.heap.size + 1) 26 #[.bool b_s, .slice A_s n_s c_s, .bool b_t, .slice A_t n_t c_t] (0, 0) _ rfl (R9_.b 3 rfl).is Tryz.underlying26 rfl (by kernel_rfl)) rfl ?_
  exact ⟨_, _, _, _, _, _, _, _, rfl, (R9_.z 1 rfl), (R9_.z 0 rfl), R9_.bel⟩
set_option maxRecDepth 100000 in
set_option maxHeartbeats 3200000 in
theorem rqtext {w : World} {a b : Bool} {A B : Option Addr} {n c m d : Nat} {x y : Int} {i j : Nat} {p q : Bool} (ha : ZIs w a A n c x i p) (hb : ZIs w b B m d y j q) {k : Nat} (hi : i ≤ k) (hj : j ≤ k) (hk : k ≤ 4096) (h1 : 1 ≤ k) {r : Rat} (hr : qv x y = r) : Calls Tryz.prog 27 #[.agg #[.bool a, .slice A n c, .bool b, .slice B m d]] w fun e w' => e = .returned (.string (str (qtx r))) ∧ Below w.heap.size w w' := by
  have R0 := ((((Env.nil_ w).add ha).add hb)).alloc 26 #[.bool a, .slice A n c, .bool b, .slice B m d] (g := w.heap.size) rfl rfl
  have HR := Lib.hid hr
  clear hr
  go_enter Tryz.func27, Tryz.ntmps27
  have k1a0 := R0.cell 0 0 rfl rfl
  have k1a1 := R0.cell 0 1 rfl rfl
  have k1a2 := R0.cell 0 2 rfl rfl
  have k1a3 := R0.cell 0 3 rfl rfl
  go_wp2_with fail
  clear k1a0 k1a1 k1a2 k1a3
  refine (rqplain (K := k) (R0.z 1 rfl) (R0.z 0 rfl) (by omega) (by omega) (by omega) h1 HR.out).mono ?_; rintro e w1 ⟨b_x, A_x, n_x, c_x, b_x_, A_x_, n_x_, c_x_, rfl, z_x, z_x_, hb1⟩
  have R1 := ((((R0.below hb1).add z_x).add z_x_).alloc 26 #[.bool b_x, .slice A_x n_x c_x, .bool b_x_, .slice A_x_ n_x_ c_x_] (g := w1.heap.size) rfl rfl)
  have hl1 := ztx_most (R1.z 1 rfl).lt
  have hl2 := ztx_most (R1.z 0 rfl).lt
  have ad1 := fun w0 => str_add (P := Tryz.prog) (ztx r.num) [47] (by simp; omega) w0
  have ad2 := fun w0 => str_add (P := Tryz.prog) (ztx r.num ++ [47]) (ztx (r.den : Int)) (by simp; omega) w0
  rw [show str [47] = ⟨#[47]⟩ from rfl] at ad1
  have hqt : qtx r = if r.den = 1 then ztx r.num else ztx r.num ++ 47 :: ztx (r.den : Int) := rfl
  have HQ := Lib.hid hqt
  clear hl1 hl2 hqt
  obtain ⟨ld, hld, hvd, _⟩ := (R1.z 0 rfl).lim
  have fd := (R1.z 0 rfl).few
  have td := fun w0 h0 => rtext_any A_x_ n_x_ c_x_ ld w0 h0 (by omega)
  rw [hvd, Int.natAbs_natCast] at td
  have htd : ztx (r.den : Int) = decTxt r.den := by rw [ztx_pos (by omega), Int.natAbs_natCast]
  rw [← htd] at td
  have HTD := Lib.hid htd
  clear hvd htd
  by_cases h1d : r.den = 1
  · have HD := Lib.hid h1d
    clear h1d
    have e1 : str (ztx (r.den : Int)) = ⟨#[49]⟩ := by rw [HTD.out, (qone_text _).2 HD.out]; rfl
    have kx0 := R1.cell 0 0 rfl rfl
    have kx1 := R1.cell 0 1 rfl rfl
    have kx2 := R1.cell 0 2 rfl rfl
    have kx3 := R1.cell 0 3 rfl rfl
    go_wp2_with fail
    clear kx0 kx1 kx2 kx3
    refine (td _ hld).mono ?_; rintro e w2 ⟨rfl, hb2⟩
    have R2 := R1.below hb2
    have k3x0 := R2.cell 0 0 rfl rfl
    have k3x1 := R2.cell 0 1 rfl rfl
    have k3x2 := R2.cell 0 2 rfl rfl
    have k3x3 := R2.cell 0 3 rfl rfl
    go_wp2_with fail
    clear k3x0 k3x1 k3x2 k3x3
    refine (rztext (R2.z 1 rfl) (by omega)).mono ?_; rintro e w3 ⟨rfl, hb3⟩
    have R3 := (R2.below hb3)
    go_wp2_with fail
    go_ret
    rw [HQ.out, if_pos HD.out]
    exact ⟨rfl, R3.bel⟩
  · have HD := Lib.hid h1d
    clear h1d
    have e1 : str (ztx (r.den : Int)) ≠ str [49] := fun h => HD.out ((qone_text _).1 (str_inj (digs_lt (dec_decTxt _).2.1) (by simp) (by rw [← HTD.out]; exact h)))
    have kx0 := R1.cell 0 0 rfl rfl
    have kx1 := R1.cell 0 1 rfl rfl
    have kx2 := R1.cell 0 2 rfl rfl
    have kx3 := R1.cell 0 3 rfl rfl
    go_wp2_with fail
    clear kx0 kx1 kx2 kx3
    refine (td _ hld).mono ?_; rintro e w2 ⟨rfl, hb2⟩
    have R2 := R1.below hb2
    have kx0 := R2.cell 0 0 rfl rfl
    have kx1 := R2.cell 0 1 rfl rfl
    have kx2 := R2.cell 0 2 rfl rfl
    have kx3 := R2.cell 0 3 rfl rfl
    have e2 := str_eq_false (c := 49) e1
    clear e1
    go_wp2_with fail
    clear kx0 kx1 kx2 kx3
    have D3 := R2.drew
    have s3 := And.intro (D3.cell 0 0 rfl rfl) (And.intro (D3.cell 0 1 rfl rfl) (And.intro (D3.cell 0 2 rfl rfl) (D3.cell 0 3 rfl rfl)))
    refine wp_region_late [] (fun w' => w'.cell? ⟨w1.heap.size, 0, none⟩ = some (.bool b_x) ∧ w'.cell? ⟨w1.heap.size, 1, none⟩ = some (.slice A_x n_x c_x) ∧ w'.cell? ⟨w1.heap.size, 2, none⟩ = some (.bool b_x_) ∧ w'.cell? ⟨w1.heap.size, 3, none⟩ = some (.slice A_x_ n_x_ c_x_)) (by kernel_rfl) ?_
    refine wpAnyL_take (i := 0) (v := ?_) rfl (by kernel_rfl) (by kernel_rfl) (by kernel_rfl) (by kernel_rfl) (by kernel_rfl) (fun _ _ _ h => h) (Or.inl ⟨by kernel_rfl, ?_⟩) s3 ?_
    rotate_left
    · rintro w' ⟨h1, h2, h3, h4⟩; go_simp; (try with_reducible rfl)
    try simp only [Act.put, List.setIfInBounds_toArray, List.set_cons_zero, List.set_cons_succ]
    refine wpAnyL_take (i := 1) (v := .agg #[.bool b_x, .slice A_x n_x c_x]) rfl (by kernel_rfl) (by kernel_rfl) (by kernel_rfl) (by kernel_rfl) (by kernel_rfl) (fun _ _ _ h => h) (Or.inl ⟨by rfl, by rintro w' ⟨h1, h2, h3, h4⟩; go_simp⟩) s3 ?_
    try simp only [Act.put, List.setIfInBounds_toArray, List.set_cons_zero, List.set_cons_succ]
    refine wpAnyL_take (i := 4) (v := ?_) rfl (by kernel_rfl) (by kernel_rfl) (by kernel_rfl) (by kernel_rfl) (by kernel_rfl) (fun _ _ _ h => h) (Or.inl ⟨by kernel_rfl, ?_⟩) s3 ?_
    rotate_left
    · rintro w' ⟨h1, h2, h3, h4⟩; go_simp; (try with_reducible rfl)
    try simp only [Act.put, List.setIfInBounds_toArray, List.set_cons_zero, List.set_cons_succ]
    refine wpAnyL_take (i := 5) (v := ?_) rfl (by kernel_rfl) (by kernel_rfl) (by kernel_rfl) (by kernel_rfl) (by kernel_rfl) (fun _ _ _ h => h) (Or.inl ⟨by kernel_rfl, ?_⟩) s3 ?_
    rotate_left
    · rintro w' ⟨h1, h2, h3, h4⟩; go_simp; (try with_reducible rfl)
    try simp only [Act.put, List.setIfInBounds_toArray, List.set_cons_zero, List.set_cons_succ]
    refine wpAnyL_take (i := 6) (v := .slice A_x_ n_x_ c_x_) rfl (by kernel_rfl) (by kernel_rfl) (by kernel_rfl) (by kernel_rfl) (by kernel_rfl) (fun _ _ _ h => h) (Or.inl ⟨by rfl, by rintro w' ⟨h1, h2, h3, h4⟩; go_simp⟩) s3 ?_
    try simp only [Act.put, List.setIfInBounds_toArray, List.set_cons_zero, List.set_cons_succ]
    refine wpAnyL_one (i := 2) (by kernel_rfl) rfl (fun K hK => ?_)
    go_simp
    refine (rztext (D3.z 1 rfl) (by omega)).mono ?_; rintro e w4 ⟨rfl, hb4⟩
    have R4 := (D3.below hb4)
    have s4 := And.intro (R4.cell 0 0 rfl rfl) (And.intro (R4.cell 0 1 rfl rfl) (And.intro (R4.cell 0 2 rfl rfl) (R4.cell 0 3 rfl rfl)))
    go_wp2_with fail
    refine hK.out _ _ (fun _ => s4) ?_
    clear hK K
    try simp only [Act.put, List.setIfInBounds_toArray, List.set_cons_zero, List.set_cons_succ]
    refine wpAnyL_take (i := 3) (v := ?_) rfl (by kernel_rfl) (by kernel_rfl) (by kernel_rfl) (by kernel_rfl) (by kernel_rfl) (fun _ _ _ h => h) (Or.inl ⟨by kernel_rfl, ?_⟩) s4 ?_
    rotate_left
    · rintro w' ⟨h1, h2, h3, h4⟩; go_simp; (try with_reducible rfl)
    try simp only [Act.put, List.setIfInBounds_toArray, List.set_cons_zero, List.set_cons_succ]
    refine wpAnyL_one (i := 7) (by kernel_rfl) rfl (fun K hK => ?_)
    go_simp
    refine (td _ ((hld.below hb2).drew.below hb4)).mono ?_; rintro e w5 ⟨rfl, hb5⟩
    have R5 := (R4.below hb5)
    have s5 := And.intro (R5.cell 0 0 rfl rfl) (And.intro (R5.cell 0 1 rfl rfl) (And.intro (R5.cell 0 2 rfl rfl) (R5.cell 0 3 rfl rfl)))
    go_wp2_with fail
    refine hK.out _ _ (fun _ => s5) ?_
    clear hK K
    try simp only [Act.put, List.setIfInBounds_toArray, List.set_cons_zero, List.set_cons_succ]
    refine wpAnyL_one (i := 8) (by kernel_rfl) rfl (fun K hK => ?_)
    go_simp
    refine hK.out _ _ (fun _ => s5) ?_
    clear hK K
    try simp only [Act.put, List.setIfInBounds_toArray, List.set_cons_zero, List.set_cons_succ]
    refine wpAnyL_one (i := 9) (by kernel_rfl) rfl (fun K hK => ?_)
    go_simp
    refine hK.out _ _ (fun _ => s5) ?_
    clear hK K
    try simp only [Act.put, List.setIfInBounds_toArray, List.set_cons_zero, List.set_cons_succ]
    refine wpAnyL_done (by kernel_rfl) ?_ _
    go_wp2_with fail
    go_ret
    rw [HQ.out, if_neg HD.out]
    exact ⟨rfl, R5.bel⟩
end Go.Proofs.YticjhlbmdjijnaaGreatDoor
