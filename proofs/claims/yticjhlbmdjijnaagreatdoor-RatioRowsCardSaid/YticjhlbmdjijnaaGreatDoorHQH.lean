/- The contracts of package ratio: Bytes, same, Read. No condition but the reach of a slice. -/
import Derived.Test.YticjhlbmdjijnaaGreatDoorHQG
import Derived.Test.YticjhlbmdjijnaaGreatDoorHZMath
namespace Go.Proofs.YticjhlbmdjijnaaGreatDoor
set_option linter.unusedSimpArgs false
set_option linter.unusedVariables false
open Go.RowKit

theorem Byt.st4 {w : World} {A : Option Addr} {n c : Nat} {l : List Nat} (h : Byt w A n c l) {g : Nat} {t : TypeId} {a b d e : Value} (hg : Blk w g t #[a, b, d, e]) (ha : notInt a = true) (hb : notInt b = true) (hd : notInt d = true) (he : notInt e = true) (u v x y : Value) (hu : notInt u = true) (hv : notInt v = true) (hx : notInt x = true) :
    Byt ((((w.setCell ⟨g, 0, none⟩ u).setCell ⟨g, 1, none⟩ v).setCell ⟨g, 2, none⟩ x).setCell ⟨g, 3, none⟩ y) A n c l :=
  (((h.blkset hg (by simp [ha, hb, hd, he]) 0 u).blkset (hg.set_ 0 u) (by simp [hu, hb, hd, he]) 1 v).blkset ((hg.set_ 0 u).set_ 1 v) (by simp [hu, hv, hd, he]) 2 x).blkset (((hg.set_ 0 u).set_ 1 v).set_ 2 x) (by simp [hu, hv, hx, he]) 3 y
set_option maxRecDepth 100000 in
set_option maxHeartbeats 1600000 in
theorem qbytes {w : World} {a b : Bool} {A B : Option Addr} {n c m d : Nat} {x y : Int} {i j : Nat} {p q : Bool} (ha : ZIs w a A n c x i p) (hb : ZIs w b B m d y j q) {k : Nat} (hi : i ≤ k) (hj : j ≤ k) (hk : k ≤ 65536) (h1 : 1 ≤ k) {r : Rat} (hr : qv x y = r) (hk4 : k ≤ 4096) : Calls Tryz.prog 44 #[.agg #[.bool a, .slice A n c, .bool b, .slice B m d]] w fun e w' => ∃ A2 m c2, e = .returned (.slice A2 m c2) ∧ m ≤ 8 * k + 6 ∧ OwnB w' w.heap.size A2 m c2 (qenc r) ∧ Below w.heap.size w w' := by
  have R0 := ((((Env.nil_ w).add ha).add hb)).alloc 26 #[.bool a, .slice A n c, .bool b, .slice B m d] (g := w.heap.size) rfl rfl
  have HR := Lib.hid hr
  clear hr
  go_enter Tryz.func44, Tryz.ntmps44
  have k1a0 := R0.cell 0 0 rfl rfl
  have k1a1 := R0.cell 0 1 rfl rfl
  have k1a2 := R0.cell 0 2 rfl rfl
  have k1a3 := R0.cell 0 3 rfl rfl
  go_wp2_with fail
  clear k1a0 k1a1 k1a2 k1a3
  refine (qplain (K := k) (R0.z 1 rfl) (R0.z 0 rfl) (by omega) (by omega) (by omega) h1 HR.out).mono ?_; rintro e w1 ⟨b_x, A_x, n_x, b_x_, A_x_, n_x_, rfl, z_x, z_x_, hb1⟩
  have R1 := (((R0.below hb1).add z_x).add z_x_)
  have za0 := R1.cell 0 0 rfl rfl
  have za1 := R1.cell 0 1 rfl rfl
  have za2 := R1.cell 0 2 rfl rfl
  have za3 := R1.cell 0 3 rfl rfl
  have zfa0 := R1.frozen 0 0 rfl
  have zfa1 := R1.frozen 0 1 rfl
  have zfa2 := R1.frozen 0 2 rfl
  have zfa3 := R1.frozen 0 3 rfl
  go_wp2_with fail
  clear za0 za1 za2 za3 zfa0 zfa1 zfa2 zfa3
  have R2 := (R1.st4 0 (.bool b_x) (.slice A_x n_x n_x) (.bool b_x_) (.slice A_x_ n_x_ n_x_) rfl rfl rfl rfl rfl)
  generalize ((((w1.setCell ⟨w.heap.size, 0, none⟩ (.bool b_x)).setCell ⟨w.heap.size, 1, none⟩ (.slice A_x n_x n_x)).setCell ⟨w.heap.size, 2, none⟩ (.bool b_x_)).setCell ⟨w.heap.size, 3, none⟩ (.slice A_x_ n_x_ n_x_)) = w2 at *
  have n1 : (zenc r.num).length ≠ 0 := by have hl := Num.dig_len_le (b := 4294967296) (by decide) k _ (R2.z 1 rfl).lt; rw [zenc_is _ (Nat.le_trans hl hk4)]; simp
  have n2 : (zenc (r.den : Int)).length ≠ 0 := by have hl := Num.dig_len_le (b := 4294967296) (by decide) k _ (R2.z 0 rfl).lt; rw [zenc_is _ (Nat.le_trans hl hk4)]; simp
  have N1 := Lib.hid n1
  have N2 := Lib.hid n2
  clear n1 n2
  have D3 := R2.drew
  have s3 := And.intro (D3.cell 0 0 rfl rfl) (And.intro (D3.cell 0 1 rfl rfl) (And.intro (D3.cell 0 2 rfl rfl) (D3.cell 0 3 rfl rfl)))
  refine wp_region_late [] (fun w' => w'.cell? ⟨w.heap.size, 0, none⟩ = some (.bool b_x) ∧ w'.cell? ⟨w.heap.size, 1, none⟩ = some (.slice A_x n_x n_x) ∧ w'.cell? ⟨w.heap.size, 2, none⟩ = some (.bool b_x_) ∧ w'.cell? ⟨w.heap.size, 3, none⟩ = some (.slice A_x_ n_x_ n_x_)) (by kernel_rfl) ?_
  refine wpAnyL_take (i := 0) (v := ?_) rfl (by kernel_rfl) (by kernel_rfl) (by kernel_rfl) (by kernel_rfl) (by kernel_rfl) (fun _ _ _ h => h) (Or.inl ⟨by kernel_rfl, ?_⟩) s3 ?_
  rotate_left
  · rintro w' ⟨h1, h2, h3, h4⟩; go_simp; (try with_reducible rfl)
  try simp only [Act.put, List.setIfInBounds_toArray, List.set_cons_zero, List.set_cons_succ]
  refine wpAnyL_take (i := 1) (v := .agg #[.bool b_x, .slice A_x n_x n_x]) rfl (by kernel_rfl) (by kernel_rfl) (by kernel_rfl) (by kernel_rfl) (by kernel_rfl) (fun _ _ _ h => h) (Or.inl ⟨by rfl, by rintro w' ⟨h1, h2, h3, h4⟩; go_simp⟩) s3 ?_
  try simp only [Act.put, List.setIfInBounds_toArray, List.set_cons_zero, List.set_cons_succ]
  refine wpAnyL_take (i := 3) (v := ?_) rfl (by kernel_rfl) (by kernel_rfl) (by kernel_rfl) (by kernel_rfl) (by kernel_rfl) (fun _ _ _ h => h) (Or.inl ⟨by kernel_rfl, ?_⟩) s3 ?_
  rotate_left
  · rintro w' ⟨h1, h2, h3, h4⟩; go_simp; (try with_reducible rfl)
  try simp only [Act.put, List.setIfInBounds_toArray, List.set_cons_zero, List.set_cons_succ]
  refine wpAnyL_take (i := 4) (v := .agg #[.bool b_x_, .slice A_x_ n_x_ n_x_]) rfl (by kernel_rfl) (by kernel_rfl) (by kernel_rfl) (by kernel_rfl) (by kernel_rfl) (fun _ _ _ h => h) (Or.inl ⟨by rfl, by rintro w' ⟨h1, h2, h3, h4⟩; go_simp⟩) s3 ?_
  try simp only [Act.put, List.setIfInBounds_toArray, List.set_cons_zero, List.set_cons_succ]
  refine wpAnyL_one (i := 2) (by kernel_rfl) rfl (fun K hK => ?_)
  go_simp
  refine (zbytes (D3.z 1 rfl) (by omega)).mono ?_; rintro e w4 ⟨A_p, m_p, c_p, rfl, hm_p, y_p, hb4⟩
  have R4 := (D3.below hb4)
  have Yp4 := y_p
  have s4 := And.intro (R4.cell 0 0 rfl rfl) (And.intro (R4.cell 0 1 rfl rfl) (And.intro (R4.cell 0 2 rfl rfl) (R4.cell 0 3 rfl rfl)))
  go_wp2_with fail
  refine hK.out _ _ (fun _ => s4) ?_
  clear hK K
  try simp only [Act.put, List.setIfInBounds_toArray, List.set_cons_zero, List.set_cons_succ]
  refine wpAnyL_one (i := 5) (by kernel_rfl) rfl (fun K hK => ?_)
  go_simp
  refine (zbytes (R4.z 0 rfl) (by omega)).mono ?_; rintro e w5 ⟨A_q, m_q, c_q, rfl, hm_q, y_q, hb5⟩
  have R5 := (R4.below hb5)
  have Yp5 := Yp4.below hb5
  have Yq5 := y_q
  have s5 := And.intro (R5.cell 0 0 rfl rfl) (And.intro (R5.cell 0 1 rfl rfl) (And.intro (R5.cell 0 2 rfl rfl) (R5.cell 0 3 rfl rfl)))
  go_wp2_with fail
  refine hK.out _ _ (fun _ => s5) ?_
  clear hK K
  try simp only [Act.put, List.setIfInBounds_toArray, List.set_cons_zero, List.set_cons_succ]
  refine wpAnyL_one (i := 6) (by kernel_rfl) rfl (fun K hK => ?_)
  go_simp
  refine hK.out _ _ (fun _ => s5) ?_
  clear hK K
  try simp only [Act.put, List.setIfInBounds_toArray, List.set_cons_zero, List.set_cons_succ]
  refine wpAnyL_one (i := 7) (by kernel_rfl) rfl (fun K hK => ?_)
  go_simp
  refine hK.out _ _ (fun _ => s5) ?_
  clear hK K
  try simp only [Act.put, List.setIfInBounds_toArray, List.set_cons_zero, List.set_cons_succ]
  refine wpAnyL_done (by kernel_rfl) ?_ _
  have e1 : ((m_p : Int) == 0) = false := by have := N1.out; have := Yp5.len; simp; omega
  have e2 : ((m_q : Int) == 0) = false := by have := N2.out; have := Yq5.len; simp; omega
  have hz := D3.size
  have hz4 := hb4.size
  have hz5 := hb5.size
  have hP := Yp5.lt_
  go_wp2_with (at_builtin; go_must (refine wpList_appI _ rfl (.tmp 21) (.tmp 22) _ rfl 5 1 Tryz.underlying38 info_byte (by omega) Yp5 rfl Yq5.ints rfl (by omega) (by omega) ?_); intro A5 c5 w9 ho5 hg5 ha5)
  go_ret
  exact ⟨A5, _, c5, rfl, by omega, ho5.mono D3.size, below_own R5.bel hg5 R5.size (fun ad h => Nat.le_trans D3.size (hP ad h).1)⟩
set_option maxRecDepth 100000 in
set_option maxHeartbeats 800000 in
theorem qsame {w : World} {a b : Bool} {A B : Option Addr} {n c m d : Nat} {x y : Int} {i j : Nat} {p q : Bool} (ha : ZIs w a A n c x i p) (hb : ZIs w b B m d y j q) (hi : i ≤ 268435456) (hj : j ≤ 268435456) {z : Bool} (hz : decide (x = y) = z) : Calls Tryz.prog 85 #[.agg #[.bool a, .slice A n c], .agg #[.bool b, .slice B m d]] w fun e w' => e = .returned (.bool z) ∧ Below w.heap.size w w' := by
  have R0 := ((((Env.nil_ w).add ha).add hb).alloc 24 #[.bool a, .slice A n c] (g := w.heap.size) rfl rfl).alloc 24 #[.bool b, .slice B m d] (g := w.heap.size + 1) (by simp) rfl
  obtain ⟨cz, hcz⟩ : ∃ cz, zcmp x y = cz := ⟨_, rfl⟩
  have hzc : (cz == 0) = z := by
    rw [← hz, ← hcz]
    rcases Int.lt_trichotomy x y with h | h | h
    · rw [zcmp_lt h, decide_eq_false (by omega)]; rfl
    · rw [h, zcmp_eq, decide_eq_true rfl]; rfl
    · rw [zcmp_gt h, decide_eq_false (by omega)]; rfl
  have HC := Lib.hid hcz
  clear hcz hz
  go_enter Tryz.func85, Tryz.ntmps85
  have k1a0 := R0.cell 1 0 rfl rfl
  have k1a1 := R0.cell 1 1 rfl rfl
  have k1b0 := R0.cell 0 0 rfl rfl
  have k1b1 := R0.cell 0 1 rfl rfl
  go_wp2_with fail
  clear k1a0 k1a1 k1b0 k1b1
  refine (zcmp_is (R0.z 1 rfl) (R0.z 0 rfl) hi hj cz HC.out).mono ?_; rintro e w1 ⟨rfl, hb1⟩
  have R1 := (R0.below hb1)
  go_wp2_with fail
  go_ret
  exact ⟨rfl, R1.bel⟩
set_option maxRecDepth 100000 in
set_option maxHeartbeats 6400000 in
theorem qread (A : Option Addr) (n c : Nat) (l : List Nat) (w : World) (hr : Byt w A n c l) (hn : n ≤ 70368744177664) : Calls Tryz.prog 42 #[.slice A n c] w fun e w' => ∃ b3 A3 n3 b4 A4 n4 A5 m5 c5, e = .returned (.tuple #[.agg #[.bool b3, .slice A3 n3 n3, .bool b4, .slice A4 n4 n4], .slice A5 m5 c5, .bool (qrok l)]) ∧ m5 ≤ n ∧ ZIs w' b3 A3 n3 n3 (qrv l).num 4096 true ∧ ZIs w' b4 A4 n4 n4 ((qrv l).den : Int) 4096 true ∧ Byt w' A5 m5 c5 (qrl l) ∧ Below w.heap.size w w' := by
  obtain ⟨b1, hb1⟩ : ∃ b, zrok l = b := ⟨_, rfl⟩
  obtain ⟨b2, hb2⟩ : ∃ b, zrok (zrl l) = b := ⟨_, rfl⟩
  obtain ⟨x, hx⟩ : ∃ x, zrv l = x := ⟨_, rfl⟩
  obtain ⟨y, hy⟩ : ∃ y, zrv (zrl l) = y := ⟨_, rfl⟩
  have hok := qrok_of hb1 hb2 hx hy
  have hv1 := qrv_yes (l := l)
  have hv2 := qrl_yes (l := l)
  rw [hx, hy] at hv1
  have z1 := fun w0 h0 => zread A n c l w0 h0 hn
  have z2 := fun A n c w0 h0 (hn : n ≤ 70368744177664) => zread A n c (zrl l) w0 h0 hn
  rw [hb1, hx] at z1
  rw [hb2, hy] at z2
  have n1 := qrv_no (l := l)
  have n2 := qrl_no (l := l)
  have HV1 := Lib.hid hv1
  have HV2 := Lib.hid hv2
  have HN1 := Lib.hid n1
  have HN2 := Lib.hid n2
  have R0 := (Env.nil_ w).alloc 26 #[.bool false, .slice none 0 0, .bool false, .slice none 0 0] (g := w.heap.size) rfl rfl
  have Y0 := hr.alloc (.cells #[.bool false, .slice none 0 0, .bool false, .slice none 0 0] 26)
  clear hb1 hb2 hx hy hv1 hv2 n1 n2 hr
  cases b1
  · simp only [Bool.false_and] at hok
    have HOK := Lib.hid hok
    clear hok
    go_enter Tryz.func42, Tryz.ntmps42
    go_wp2_with fail
    refine (z1 _ Y0).mono ?_; rintro e w1 ⟨b_x, A_x, n_x, A_rest, m_rest, c_rest, rfl, hm_rest, z_x, y_rest, hb1⟩
    have R1 := (((R0.below hb1).add z_x).alloc 24 #[.bool b_x, .slice A_x n_x n_x] (g := w1.heap.size) rfl rfl)
    have Yb1 := ((Y0.below hb1).alloc (.cells #[.bool b_x, .slice A_x n_x n_x] 24))
    have Yrest1 := (y_rest.alloc (.cells #[.bool b_x, .slice A_x n_x n_x] 24))
    go_wp2_with fail
    refine (qzero _).mono ?_; rintro e w2 ⟨b_p, A_p, n_p, b_q, A_q, n_q, rfl, z_p, z_q, hb2⟩
    have R2 := (((R1.below hb2).add z_p).add z_q)
    have Yb2 := (Yb1.below hb2)
    have Yrest2 := (Yrest1.below hb2)
    have zr0 := R2.cell 1 0 rfl rfl
    have zr1 := R2.cell 1 1 rfl rfl
    have zr2 := R2.cell 1 2 rfl rfl
    have zr3 := R2.cell 1 3 rfl rfl
    have zfr0 := R2.frozen 1 0 rfl
    have zfr1 := R2.frozen 1 1 rfl
    have zfr2 := R2.frozen 1 2 rfl
    have zfr3 := R2.frozen 1 3 rfl
    go_wp2_with fail
    have R9_ := R2.st4 1 (.bool b_p) (.slice A_p n_p n_p) (.bool b_q) (.slice A_q n_q n_q) rfl rfl rfl rfl rfl
    refine bodyPost_ret (results_row_tmp2 rfl _ _ (w.heap.size) 26 #[.bool b_p, .slice A_p n_p n_p, .bool b_q, .slice A_q n_q n_q] (0, 0) _ rfl (R9_.b 1 rfl).is Tryz.underlying26 rfl (by kernel_rfl)) rfl ?_
    rw [HOK.out, HN1.out HOK.out, HN2.out HOK.out]
    exact ⟨_, _, _, _, _, _, none, 0, 0, rfl, Nat.zero_le _, (R9_.z 1 rfl).mono (by omega), (R9_.z 0 rfl).mono (by omega), Ints.nil_ .., R9_.bel⟩
  cases b2
  · simp only [Bool.and_false, Bool.false_and] at hok
    have HOK := Lib.hid hok
    clear hok
    go_enter Tryz.func42, Tryz.ntmps42
    go_wp2_with fail
    refine (z1 _ Y0).mono ?_; rintro e w1 ⟨b_x, A_x, n_x, A_rest, m_rest, c_rest, rfl, hm_rest, z_x, y_rest, hb1⟩
    have R1 := (((R0.below hb1).add z_x).alloc 24 #[.bool b_x, .slice A_x n_x n_x] (g := w1.heap.size) rfl rfl)
    have Yb1 := ((Y0.below hb1).alloc (.cells #[.bool b_x, .slice A_x n_x n_x] 24))
    have Yrest1 := (y_rest.alloc (.cells #[.bool b_x, .slice A_x n_x n_x] 24))
    go_wp2_with fail
    refine (z2 _ _ _ _ Yrest1 (by omega)).mono ?_; rintro e w2 ⟨b_y, A_y, n_y, A_left, m_left, c_left, rfl, hm_left, z_y, y_left, hb2⟩
    have R2 := (((R1.below hb2).add z_y).alloc 24 #[.bool b_y, .slice A_y n_y n_y] (g := w2.heap.size) rfl rfl)
    have Yrest2 := ((Yrest1.below hb2).alloc (.cells #[.bool b_y, .slice A_y n_y n_y] 24))
    have Yleft2 := (y_left.alloc (.cells #[.bool b_y, .slice A_y n_y n_y] 24))
    have kx0 := R2.cell 1 0 rfl rfl
    have kx1 := R2.cell 1 1 rfl rfl
    have ky0 := R2.cell 0 0 rfl rfl
    have ky1 := R2.cell 0 1 rfl rfl
    have Ra := R2.alloc 26 #[.bool b_x, .slice A_x n_x n_x, .bool b_y, .slice A_y n_y n_y] (g := w2.heap.size + 1) (by simp) rfl
    have YLa := Yleft2.alloc (.cells #[.bool b_x, .slice A_x n_x n_x, .bool b_y, .slice A_y n_y n_y] 26)
    go_wp2_with fail
    refine (qzero _).mono ?_; rintro e w3 ⟨b_p, A_p, n_p, b_q, A_q, n_q, rfl, z_p, z_q, hb3⟩
    have R3 := (((Ra.below hb3).add z_p).add z_q)
    have Yleft3 := (YLa.below hb3)
    clear kx0 kx1 ky0 ky1
    have zr0 := R3.cell 3 0 rfl rfl
    have zr1 := R3.cell 3 1 rfl rfl
    have zr2 := R3.cell 3 2 rfl rfl
    have zr3 := R3.cell 3 3 rfl rfl
    have zfr0 := R3.frozen 3 0 rfl
    have zfr1 := R3.frozen 3 1 rfl
    have zfr2 := R3.frozen 3 2 rfl
    have zfr3 := R3.frozen 3 3 rfl
    go_wp2_with fail
    have R9_ := R3.st4 3 (.bool b_p) (.slice A_p n_p n_p) (.bool b_q) (.slice A_q n_q n_q) rfl rfl rfl rfl rfl
    refine bodyPost_ret (results_row_tmp2 rfl _ _ (w.heap.size) 26 #[.bool b_p, .slice A_p n_p n_p, .bool b_q, .slice A_q n_q n_q] (0, 0) _ rfl (R9_.b 3 rfl).is Tryz.underlying26 rfl (by kernel_rfl)) rfl ?_
    rw [HOK.out, HN1.out HOK.out, HN2.out HOK.out]
    exact ⟨_, _, _, _, _, _, none, 0, 0, rfl, Nat.zero_le _, (R9_.z 1 rfl).mono (by omega), (R9_.z 0 rfl).mono (by omega), Ints.nil_ .., R9_.bel⟩
  by_cases h0 : 0 < y
  · obtain ⟨r, hr⟩ : ∃ r, qv x y = r := ⟨_, rfl⟩
    obtain ⟨d1, hd1⟩ : ∃ b, decide (r.num = x) = b := ⟨_, rfl⟩
    obtain ⟨d2, hd2⟩ : ∃ b, decide ((r.den : Int) = y) = b := ⟨_, rfl⟩
    rw [hr, hd1, hd2, decide_eq_true h0] at hok
    simp only [Bool.and_self, Bool.true_and] at hok
    have HRR := Lib.hid hr
    have HD1 := Lib.hid hd1
    have HD2 := Lib.hid hd2
    clear hr hd1 hd2
    cases d1
    · simp only [Bool.false_and] at hok
      have HOK := Lib.hid hok
      clear hok
      go_enter Tryz.func42, Tryz.ntmps42
      go_wp2_with fail
      refine (z1 _ Y0).mono ?_; rintro e w1 ⟨b_x, A_x, n_x, A_rest, m_rest, c_rest, rfl, hm_rest, z_x, y_rest, hb1⟩
      have R1 := (((R0.below hb1).add z_x).alloc 24 #[.bool b_x, .slice A_x n_x n_x] (g := w1.heap.size) rfl rfl)
      have Yb1 := ((Y0.below hb1).alloc (.cells #[.bool b_x, .slice A_x n_x n_x] 24))
      have Yrest1 := (y_rest.alloc (.cells #[.bool b_x, .slice A_x n_x n_x] 24))
      go_wp2_with fail
      refine (z2 _ _ _ _ Yrest1 (by omega)).mono ?_; rintro e w2 ⟨b_y, A_y, n_y, A_left, m_left, c_left, rfl, hm_left, z_y, y_left, hb2⟩
      have R2 := (((R1.below hb2).add z_y).alloc 24 #[.bool b_y, .slice A_y n_y n_y] (g := w2.heap.size) rfl rfl)
      have Yrest2 := ((Yrest1.below hb2).alloc (.cells #[.bool b_y, .slice A_y n_y n_y] 24))
      have Yleft2 := (y_left.alloc (.cells #[.bool b_y, .slice A_y n_y n_y] 24))
      have kx0 := R2.cell 1 0 rfl rfl
      have kx1 := R2.cell 1 1 rfl rfl
      have ky0 := R2.cell 0 0 rfl rfl
      have ky1 := R2.cell 0 1 rfl rfl
      have Ra := R2.alloc 26 #[.bool b_x, .slice A_x n_x n_x, .bool b_y, .slice A_y n_y n_y] (g := w2.heap.size + 1) (by simp) rfl
      have YLa := Yleft2.alloc (.cells #[.bool b_x, .slice A_x n_x n_x, .bool b_y, .slice A_y n_y n_y] 26)
      have k3a0 := Ra.cell 0 0 rfl rfl
      have k3a1 := Ra.cell 0 1 rfl rfl
      have k3a2 := Ra.cell 0 2 rfl rfl
      have k3a3 := Ra.cell 0 3 rfl rfl
      go_wp2_with fail
      clear k3a0 k3a1 k3a2 k3a3
      refine (qmay_yes (Ra.z 1 rfl) (Ra.z 0 rfl) (by omega) h0).mono ?_; rintro e w3 ⟨rfl, hb3⟩
      have R3 := (Ra.below hb3)
      have Yleft3 := (YLa.below hb3)
      clear kx0 kx1 ky0 ky1
      have k4a0 := R3.cell 0 0 rfl rfl
      have k4a1 := R3.cell 0 1 rfl rfl
      have k4a2 := R3.cell 0 2 rfl rfl
      have k4a3 := R3.cell 0 3 rfl rfl
      go_wp2_with fail
      clear k4a0 k4a1 k4a2 k4a3
      refine (qplain (K := 4096) (R3.z 1 rfl) (R3.z 0 rfl) (by omega) (by omega) (by omega) (by omega) HRR.out).mono ?_; rintro e w4 ⟨b_s, A_s, n_s, b_t, A_t, n_t, rfl, z_s, z_t, hb4⟩
      have R4 := ((((R3.below hb4).add z_s).add z_t).alloc 26 #[.bool b_s, .slice A_s n_s n_s, .bool b_t, .slice A_t n_t n_t] (g := w4.heap.size) rfl rfl)
      have Yleft4 := ((Yleft3.below hb4).alloc (.cells #[.bool b_s, .slice A_s n_s n_s, .bool b_t, .slice A_t n_t n_t] 26))
      have k5p0 := R4.cell 0 0 rfl rfl
      have k5p1 := R4.cell 0 1 rfl rfl
      have k5p2 := R4.cell 0 2 rfl rfl
      have k5p3 := R4.cell 0 3 rfl rfl
      have k5x0 := R4.cell 3 0 rfl rfl
      have k5x1 := R4.cell 3 1 rfl rfl
      go_wp2_with fail
      clear k5p0 k5p1 k5p2 k5p3 k5x0 k5x1
      refine (qsame (R4.z 1 rfl) (R4.z 3 rfl) (by omega) (by omega) HD1.out).mono ?_; rintro e w5 ⟨rfl, hb5⟩
      have R5 := (R4.below hb5)
      have Yleft5 := (Yleft4.below hb5)
      have yy0 := R5.cell 2 0 rfl rfl
      have yy1 := R5.cell 2 1 rfl rfl
      go_wp2_with fail
      refine (qzero _).mono ?_; rintro e w6 ⟨b_p, A_p, n_p, b_q, A_q, n_q, rfl, z_p, z_q, hb6⟩
      have R6 := (((R5.below hb6).add z_p).add z_q)
      have Yleft6 := (Yleft5.below hb6)
      have zr0 := R6.cell 4 0 rfl rfl
      have zr1 := R6.cell 4 1 rfl rfl
      have zr2 := R6.cell 4 2 rfl rfl
      have zr3 := R6.cell 4 3 rfl rfl
      have zfr0 := R6.frozen 4 0 rfl
      have zfr1 := R6.frozen 4 1 rfl
      have zfr2 := R6.frozen 4 2 rfl
      have zfr3 := R6.frozen 4 3 rfl
      go_wp2_with fail
      have R9_ := R6.st4 4 (.bool b_p) (.slice A_p n_p n_p) (.bool b_q) (.slice A_q n_q n_q) rfl rfl rfl rfl rfl
      refine bodyPost_ret (results_row_tmp2 rfl _ _ (w.heap.size) 26 #[.bool b_p, .slice A_p n_p n_p, .bool b_q, .slice A_q n_q n_q] (0, 0) _ rfl (R9_.b 4 rfl).is Tryz.underlying26 rfl (by kernel_rfl)) rfl ?_
      rw [HOK.out, HN1.out HOK.out, HN2.out HOK.out]
      exact ⟨_, _, _, _, _, _, none, 0, 0, rfl, Nat.zero_le _, (R9_.z 1 rfl).mono (by omega), (R9_.z 0 rfl).mono (by omega), Ints.nil_ .., R9_.bel⟩
    cases d2
    · simp only [Bool.and_false] at hok
      have HOK := Lib.hid hok
      clear hok
      go_enter Tryz.func42, Tryz.ntmps42
      go_wp2_with fail
      refine (z1 _ Y0).mono ?_; rintro e w1 ⟨b_x, A_x, n_x, A_rest, m_rest, c_rest, rfl, hm_rest, z_x, y_rest, hb1⟩
      have R1 := (((R0.below hb1).add z_x).alloc 24 #[.bool b_x, .slice A_x n_x n_x] (g := w1.heap.size) rfl rfl)
      have Yb1 := ((Y0.below hb1).alloc (.cells #[.bool b_x, .slice A_x n_x n_x] 24))
      have Yrest1 := (y_rest.alloc (.cells #[.bool b_x, .slice A_x n_x n_x] 24))
      go_wp2_with fail
      refine (z2 _ _ _ _ Yrest1 (by omega)).mono ?_; rintro e w2 ⟨b_y, A_y, n_y, A_left, m_left, c_left, rfl, hm_left, z_y, y_left, hb2⟩
      have R2 := (((R1.below hb2).add z_y).alloc 24 #[.bool b_y, .slice A_y n_y n_y] (g := w2.heap.size) rfl rfl)
      have Yrest2 := ((Yrest1.below hb2).alloc (.cells #[.bool b_y, .slice A_y n_y n_y] 24))
      have Yleft2 := (y_left.alloc (.cells #[.bool b_y, .slice A_y n_y n_y] 24))
      have kx0 := R2.cell 1 0 rfl rfl
      have kx1 := R2.cell 1 1 rfl rfl
      have ky0 := R2.cell 0 0 rfl rfl
      have ky1 := R2.cell 0 1 rfl rfl
      have Ra := R2.alloc 26 #[.bool b_x, .slice A_x n_x n_x, .bool b_y, .slice A_y n_y n_y] (g := w2.heap.size + 1) (by simp) rfl
      have YLa := Yleft2.alloc (.cells #[.bool b_x, .slice A_x n_x n_x, .bool b_y, .slice A_y n_y n_y] 26)
      have k3a0 := Ra.cell 0 0 rfl rfl
      have k3a1 := Ra.cell 0 1 rfl rfl
      have k3a2 := Ra.cell 0 2 rfl rfl
      have k3a3 := Ra.cell 0 3 rfl rfl
      go_wp2_with fail
      clear k3a0 k3a1 k3a2 k3a3
      refine (qmay_yes (Ra.z 1 rfl) (Ra.z 0 rfl) (by omega) h0).mono ?_; rintro e w3 ⟨rfl, hb3⟩
      have R3 := (Ra.below hb3)
      have Yleft3 := (YLa.below hb3)
      clear kx0 kx1 ky0 ky1
      have k4a0 := R3.cell 0 0 rfl rfl
      have k4a1 := R3.cell 0 1 rfl rfl
      have k4a2 := R3.cell 0 2 rfl rfl
      have k4a3 := R3.cell 0 3 rfl rfl
      go_wp2_with fail
      clear k4a0 k4a1 k4a2 k4a3
      refine (qplain (K := 4096) (R3.z 1 rfl) (R3.z 0 rfl) (by omega) (by omega) (by omega) (by omega) HRR.out).mono ?_; rintro e w4 ⟨b_s, A_s, n_s, b_t, A_t, n_t, rfl, z_s, z_t, hb4⟩
      have R4 := ((((R3.below hb4).add z_s).add z_t).alloc 26 #[.bool b_s, .slice A_s n_s n_s, .bool b_t, .slice A_t n_t n_t] (g := w4.heap.size) rfl rfl)
      have Yleft4 := ((Yleft3.below hb4).alloc (.cells #[.bool b_s, .slice A_s n_s n_s, .bool b_t, .slice A_t n_t n_t] 26))
      have k5p0 := R4.cell 0 0 rfl rfl
      have k5p1 := R4.cell 0 1 rfl rfl
      have k5p2 := R4.cell 0 2 rfl rfl
      have k5p3 := R4.cell 0 3 rfl rfl
      have k5x0 := R4.cell 3 0 rfl rfl
      have k5x1 := R4.cell 3 1 rfl rfl
      go_wp2_with fail
      clear k5p0 k5p1 k5p2 k5p3 k5x0 k5x1
      refine (qsame (R4.z 1 rfl) (R4.z 3 rfl) (by omega) (by omega) HD1.out).mono ?_; rintro e w5 ⟨rfl, hb5⟩
      have R5 := (R4.below hb5)
      have Yleft5 := (Yleft4.below hb5)
      have k6p0 := R5.cell 0 0 rfl rfl
      have k6p1 := R5.cell 0 1 rfl rfl
      have k6p2 := R5.cell 0 2 rfl rfl
      have k6p3 := R5.cell 0 3 rfl rfl
      have k6y0 := R5.cell 2 0 rfl rfl
      have k6y1 := R5.cell 2 1 rfl rfl
      go_wp2_with fail
      clear k6p0 k6p1 k6p2 k6p3 k6y0 k6y1
      refine (qsame (R5.z 0 rfl) (R5.z 2 rfl) (by omega) (by omega) HD2.out).mono ?_; rintro e w6 ⟨rfl, hb6⟩
      have R6 := (R5.below hb6)
      have Yleft6 := (Yleft5.below hb6)
      go_wp2_with fail
      refine (qzero _).mono ?_; rintro e w7 ⟨b_p, A_p, n_p, b_q, A_q, n_q, rfl, z_p, z_q, hb7⟩
      have R7 := (((R6.below hb7).add z_p).add z_q)
      have Yleft7 := (Yleft6.below hb7)
      have zr0 := R7.cell 4 0 rfl rfl
      have zr1 := R7.cell 4 1 rfl rfl
      have zr2 := R7.cell 4 2 rfl rfl
      have zr3 := R7.cell 4 3 rfl rfl
      have zfr0 := R7.frozen 4 0 rfl
      have zfr1 := R7.frozen 4 1 rfl
      have zfr2 := R7.frozen 4 2 rfl
      have zfr3 := R7.frozen 4 3 rfl
      go_wp2_with fail
      have R9_ := R7.st4 4 (.bool b_p) (.slice A_p n_p n_p) (.bool b_q) (.slice A_q n_q n_q) rfl rfl rfl rfl rfl
      refine bodyPost_ret (results_row_tmp2 rfl _ _ (w.heap.size) 26 #[.bool b_p, .slice A_p n_p n_p, .bool b_q, .slice A_q n_q n_q] (0, 0) _ rfl (R9_.b 4 rfl).is Tryz.underlying26 rfl (by kernel_rfl)) rfl ?_
      rw [HOK.out, HN1.out HOK.out, HN2.out HOK.out]
      exact ⟨_, _, _, _, _, _, none, 0, 0, rfl, Nat.zero_le _, (R9_.z 1 rfl).mono (by omega), (R9_.z 0 rfl).mono (by omega), Ints.nil_ .., R9_.bel⟩
    · simp only [Bool.and_self] at hok
      have HOK := Lib.hid hok
      clear hok
      go_enter Tryz.func42, Tryz.ntmps42
      go_wp2_with fail
      refine (z1 _ Y0).mono ?_; rintro e w1 ⟨b_x, A_x, n_x, A_rest, m_rest, c_rest, rfl, hm_rest, z_x, y_rest, hb1⟩
      have R1 := (((R0.below hb1).add z_x).alloc 24 #[.bool b_x, .slice A_x n_x n_x] (g := w1.heap.size) rfl rfl)
      have Yb1 := ((Y0.below hb1).alloc (.cells #[.bool b_x, .slice A_x n_x n_x] 24))
      have Yrest1 := (y_rest.alloc (.cells #[.bool b_x, .slice A_x n_x n_x] 24))
      go_wp2_with fail
      refine (z2 _ _ _ _ Yrest1 (by omega)).mono ?_; rintro e w2 ⟨b_y, A_y, n_y, A_left, m_left, c_left, rfl, hm_left, z_y, y_left, hb2⟩
      have R2 := (((R1.below hb2).add z_y).alloc 24 #[.bool b_y, .slice A_y n_y n_y] (g := w2.heap.size) rfl rfl)
      have Yrest2 := ((Yrest1.below hb2).alloc (.cells #[.bool b_y, .slice A_y n_y n_y] 24))
      have Yleft2 := (y_left.alloc (.cells #[.bool b_y, .slice A_y n_y n_y] 24))
      have kx0 := R2.cell 1 0 rfl rfl
      have kx1 := R2.cell 1 1 rfl rfl
      have ky0 := R2.cell 0 0 rfl rfl
      have ky1 := R2.cell 0 1 rfl rfl
      have Ra := R2.alloc 26 #[.bool b_x, .slice A_x n_x n_x, .bool b_y, .slice A_y n_y n_y] (g := w2.heap.size + 1) (by simp) rfl
      have YLa := Yleft2.alloc (.cells #[.bool b_x, .slice A_x n_x n_x, .bool b_y, .slice A_y n_y n_y] 26)
      have k3a0 := Ra.cell 0 0 rfl rfl
      have k3a1 := Ra.cell 0 1 rfl rfl
      have k3a2 := Ra.cell 0 2 rfl rfl
      have k3a3 := Ra.cell 0 3 rfl rfl
      go_wp2_with fail
      clear k3a0 k3a1 k3a2 k3a3
      refine (qmay_yes (Ra.z 1 rfl) (Ra.z 0 rfl) (by omega) h0).mono ?_; rintro e w3 ⟨rfl, hb3⟩
      have R3 := (Ra.below hb3)
      have Yleft3 := (YLa.below hb3)
      clear kx0 kx1 ky0 ky1
      have k4a0 := R3.cell 0 0 rfl rfl
      have k4a1 := R3.cell 0 1 rfl rfl
      have k4a2 := R3.cell 0 2 rfl rfl
      have k4a3 := R3.cell 0 3 rfl rfl
      go_wp2_with fail
      clear k4a0 k4a1 k4a2 k4a3
      refine (qplain (K := 4096) (R3.z 1 rfl) (R3.z 0 rfl) (by omega) (by omega) (by omega) (by omega) HRR.out).mono ?_; rintro e w4 ⟨b_s, A_s, n_s, b_t, A_t, n_t, rfl, z_s, z_t, hb4⟩
      have R4 := ((((R3.below hb4).add z_s).add z_t).alloc 26 #[.bool b_s, .slice A_s n_s n_s, .bool b_t, .slice A_t n_t n_t] (g := w4.heap.size) rfl rfl)
      have Yleft4 := ((Yleft3.below hb4).alloc (.cells #[.bool b_s, .slice A_s n_s n_s, .bool b_t, .slice A_t n_t n_t] 26))
      have k5p0 := R4.cell 0 0 rfl rfl
      have k5p1 := R4.cell 0 1 rfl rfl
      have k5p2 := R4.cell 0 2 rfl rfl
      have k5p3 := R4.cell 0 3 rfl rfl
      have k5x0 := R4.cell 3 0 rfl rfl
      have k5x1 := R4.cell 3 1 rfl rfl
      go_wp2_with fail
      clear k5p0 k5p1 k5p2 k5p3 k5x0 k5x1
      refine (qsame (R4.z 1 rfl) (R4.z 3 rfl) (by omega) (by omega) HD1.out).mono ?_; rintro e w5 ⟨rfl, hb5⟩
      have R5 := (R4.below hb5)
      have Yleft5 := (Yleft4.below hb5)
      have k6p0 := R5.cell 0 0 rfl rfl
      have k6p1 := R5.cell 0 1 rfl rfl
      have k6p2 := R5.cell 0 2 rfl rfl
      have k6p3 := R5.cell 0 3 rfl rfl
      have k6y0 := R5.cell 2 0 rfl rfl
      have k6y1 := R5.cell 2 1 rfl rfl
      go_wp2_with fail
      clear k6p0 k6p1 k6p2 k6p3 k6y0 k6y1
      refine (qsame (R5.z 0 rfl) (R5.z 2 rfl) (by omega) (by omega) HD2.out).mono ?_; rintro e w6 ⟨rfl, hb6⟩
      have R6 := (R5.below hb6)
      have Yleft6 := (Yleft5.below hb6)
      have ya0 := R6.cell 1 0 rfl rfl
      have ya1 := R6.cell 1 1 rfl rfl
      have ya2 := R6.cell 1 2 rfl rfl
      have ya3 := R6.cell 1 3 rfl rfl
      have HNN := Lib.hid (And.intro (of_decide_eq_true HD1.out) (of_decide_eq_true HD2.out))
      have zr0 := R6.cell 4 0 rfl rfl
      have zr1 := R6.cell 4 1 rfl rfl
      have zr2 := R6.cell 4 2 rfl rfl
      have zr3 := R6.cell 4 3 rfl rfl
      have zfr0 := R6.frozen 4 0 rfl
      have zfr1 := R6.frozen 4 1 rfl
      have zfr2 := R6.frozen 4 2 rfl
      have zfr3 := R6.frozen 4 3 rfl
      go_wp2_with fail
      have R9_ := R6.st4 4 (.bool b_x) (.slice A_x n_x n_x) (.bool b_y) (.slice A_y n_y n_y) rfl rfl rfl rfl rfl
      refine bodyPost_ret (results_row_tmp2 rfl _ _ (w.heap.size) 26 #[.bool b_x, .slice A_x n_x n_x, .bool b_y, .slice A_y n_y n_y] (0, 0) _ rfl (R9_.b 4 rfl).is Tryz.underlying26 rfl (by kernel_rfl)) rfl ?_
      rw [HOK.out, HV1.out HOK.out, HV2.out HOK.out, HRR.out]
      exact ⟨_, _, _, _, _, _, _, _, _, rfl, by omega, (R9_.z 3 rfl).as HNN.out.1.symm, (R9_.z 2 rfl).as HNN.out.2.symm, Byt.st4 Yleft6 (R6.b 4 rfl) rfl rfl rfl rfl _ _ _ _ rfl rfl rfl, R9_.bel⟩
  · have hok2 : qrok l = false := by rw [hok, decide_eq_false h0]; rfl
    have HOK := Lib.hid hok2
    have H0 := Lib.hid h0
    clear hok hok2 h0
    go_enter Tryz.func42, Tryz.ntmps42
    go_wp2_with fail
    refine (z1 _ Y0).mono ?_; rintro e w1 ⟨b_x, A_x, n_x, A_rest, m_rest, c_rest, rfl, hm_rest, z_x, y_rest, hb1⟩
    have R1 := (((R0.below hb1).add z_x).alloc 24 #[.bool b_x, .slice A_x n_x n_x] (g := w1.heap.size) rfl rfl)
    have Yb1 := ((Y0.below hb1).alloc (.cells #[.bool b_x, .slice A_x n_x n_x] 24))
    have Yrest1 := (y_rest.alloc (.cells #[.bool b_x, .slice A_x n_x n_x] 24))
    go_wp2_with fail
    refine (z2 _ _ _ _ Yrest1 (by omega)).mono ?_; rintro e w2 ⟨b_y, A_y, n_y, A_left, m_left, c_left, rfl, hm_left, z_y, y_left, hb2⟩
    have R2 := (((R1.below hb2).add z_y).alloc 24 #[.bool b_y, .slice A_y n_y n_y] (g := w2.heap.size) rfl rfl)
    have Yrest2 := ((Yrest1.below hb2).alloc (.cells #[.bool b_y, .slice A_y n_y n_y] 24))
    have Yleft2 := (y_left.alloc (.cells #[.bool b_y, .slice A_y n_y n_y] 24))
    have kx0 := R2.cell 1 0 rfl rfl
    have kx1 := R2.cell 1 1 rfl rfl
    have ky0 := R2.cell 0 0 rfl rfl
    have ky1 := R2.cell 0 1 rfl rfl
    have Ra := R2.alloc 26 #[.bool b_x, .slice A_x n_x n_x, .bool b_y, .slice A_y n_y n_y] (g := w2.heap.size + 1) (by simp) rfl
    have YLa := Yleft2.alloc (.cells #[.bool b_x, .slice A_x n_x n_x, .bool b_y, .slice A_y n_y n_y] 26)
    have k3a0 := Ra.cell 0 0 rfl rfl
    have k3a1 := Ra.cell 0 1 rfl rfl
    have k3a2 := Ra.cell 0 2 rfl rfl
    have k3a3 := Ra.cell 0 3 rfl rfl
    go_wp2_with fail
    clear k3a0 k3a1 k3a2 k3a3
    refine (qmay_no (Ra.z 1 rfl) (Ra.z 0 rfl) (by omega) (by have := H0.out; omega)).mono ?_; rintro e w3 ⟨rfl, hb3⟩
    have R3 := (Ra.below hb3)
    have Yleft3 := (YLa.below hb3)
    go_wp2_with fail
    refine (qzero _).mono ?_; rintro e w4 ⟨b_p, A_p, n_p, b_q, A_q, n_q, rfl, z_p, z_q, hb4⟩
    have R4 := (((R3.below hb4).add z_p).add z_q)
    have Yleft4 := (Yleft3.below hb4)
    clear kx0 kx1 ky0 ky1
    have zr0 := R4.cell 3 0 rfl rfl
    have zr1 := R4.cell 3 1 rfl rfl
    have zr2 := R4.cell 3 2 rfl rfl
    have zr3 := R4.cell 3 3 rfl rfl
    have zfr0 := R4.frozen 3 0 rfl
    have zfr1 := R4.frozen 3 1 rfl
    have zfr2 := R4.frozen 3 2 rfl
    have zfr3 := R4.frozen 3 3 rfl
    go_wp2_with fail
    have R9_ := R4.st4 3 (.bool b_p) (.slice A_p n_p n_p) (.bool b_q) (.slice A_q n_q n_q) rfl rfl rfl rfl rfl
    refine bodyPost_ret (results_row_tmp2 rfl _ _ (w.heap.size) 26 #[.bool b_p, .slice A_p n_p n_p, .bool b_q, .slice A_q n_q n_q] (0, 0) _ rfl (R9_.b 3 rfl).is Tryz.underlying26 rfl (by kernel_rfl)) rfl ?_
    rw [HOK.out, HN1.out HOK.out, HN2.out HOK.out]
    exact ⟨_, _, _, _, _, _, none, 0, 0, rfl, Nat.zero_le _, (R9_.z 1 rfl).mono (by omega), (R9_.z 0 rfl).mono (by omega), Ints.nil_ .., R9_.bel⟩
end Go.Proofs.YticjhlbmdjijnaaGreatDoor
