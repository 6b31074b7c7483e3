/- The contracts of heijunkaref03: Bytes, Read. No condition but the reach of a slice. -/
import Derived.Test.YticjhlbmdjijnaaGreatDoorHQU
namespace Go.Proofs.YticjhlbmdjijnaaGreatDoor
set_option linter.unusedSimpArgs false
set_option linter.unusedVariables false
open Go.RowKit

set_option maxRecDepth 100000 in
set_option maxHeartbeats 1600000 in
theorem rqbytes {w : World} {a b : Bool} {A B : Option Addr} {n c m d : Nat} {x y : Int} {i j : Nat} {p q : Bool} (ha : ZIs w a A n c x i p) (hb : ZIs w b B m d y j q) {k : Nat} (hi : i ≤ k) (hj : j ≤ k) (hk : k ≤ 4096) (h1 : 1 ≤ k) {r : Rat} (hr : qv x y = r) : Calls Tryz.prog 47 #[.agg #[.bool a, .slice A n c, .bool b, .slice B m d]] w fun e w' => ∃ A2 m c2, e = .returned (.slice A2 m c2) ∧ OwnB w' w.heap.size A2 m c2 (qenc r) ∧ Below w.heap.size w w' := by
  have R0 := ((((Env.nil_ w).add ha).add hb)).alloc 26 #[.bool a, .slice A n c, .bool b, .slice B m d] (g := w.heap.size) rfl rfl
  have HR := Lib.hid hr
  clear hr
  go_enter Tryz.func47, Tryz.ntmps47
  have k1a0 := R0.cell 0 0 rfl rfl
  have k1a1 := R0.cell 0 1 rfl rfl
  have k1a2 := R0.cell 0 2 rfl rfl
  have k1a3 := R0.cell 0 3 rfl rfl
  go_wp2_with fail
  clear k1a0 k1a1 k1a2 k1a3
  refine (rqplain (K := k) (R0.z 1 rfl) (R0.z 0 rfl) (by omega) (by omega) (by omega) h1 HR.out).mono ?_; rintro e w1 ⟨b_x, A_x, n_x, c_x, b_x_, A_x_, n_x_, c_x_, rfl, z_x, z_x_, hb1⟩
  have R1 := ((((R0.below hb1).add z_x).add z_x_).alloc 26 #[.bool b_x, .slice A_x n_x c_x, .bool b_x_, .slice A_x_ n_x_ c_x_] (g := w1.heap.size) rfl rfl)
  have n1 : (zenc r.num).length ≠ 0 := by have hl := Num.dig_len_le (b := 4294967296) (by decide) k _ (R1.z 1 rfl).lt; rw [zenc_is _ (Nat.le_trans hl hk)]; simp
  have n2 : (zenc (r.den : Int)).length ≠ 0 := by have hl := Num.dig_len_le (b := 4294967296) (by decide) k _ (R1.z 0 rfl).lt; rw [zenc_is _ (Nat.le_trans hl hk)]; simp
  have l1 := zenc_most (R1.z 1 rfl).lt
  have l2 := zenc_most (R1.z 0 rfl).lt
  have N1 := Lib.hid n1
  have N2 := Lib.hid n2
  clear n1 n2
  have k2x0 := R1.cell 0 0 rfl rfl
  have k2x1 := R1.cell 0 1 rfl rfl
  have k2x2 := R1.cell 0 2 rfl rfl
  have k2x3 := R1.cell 0 3 rfl rfl
  go_wp2_with fail
  clear k2x0 k2x1 k2x2 k2x3
  refine (rzbytes (R1.z 1 rfl) (by omega)).mono ?_; rintro e w2 ⟨A_p, m_p, c_p, rfl, y_p, hb2⟩
  have R2 := (R1.below hb2)
  have Yp2 := y_p
  have hbase := R1.size
  have k3x0 := R2.cell 0 0 rfl rfl
  have k3x1 := R2.cell 0 1 rfl rfl
  have k3x2 := R2.cell 0 2 rfl rfl
  have k3x3 := R2.cell 0 3 rfl rfl
  go_wp2_with fail
  clear k3x0 k3x1 k3x2 k3x3
  refine (rzbytes (R2.z 0 rfl) (by omega)).mono ?_; rintro e w3 ⟨A_q, m_q, c_q, rfl, y_q, hb3⟩
  have R3 := (R2.below hb3)
  have Yp3 := (Yp2.below hb3)
  have Yq3 := y_q
  have lp := Yp3.len
  have lq := Yq3.len
  have e1 : ((m_p : Int) == 0) = false := by have := N1.out; simp; omega
  have e2 : ((m_q : Int) == 0) = false := by have := N2.out; simp; omega
  rw [lp] at l1
  rw [lq] at l2
  clear lp lq
  have hs := R3.size
  have E3 := OwnI.empty (w := w3) (base := w.heap.size) .u8 256 5 rfl hs
  go_wp2_with (first | (at_builtin; refine wpList_appI _ rfl (.tmp 22) (.tmp 23) _ rfl 5 1 Tryz.underlying38 info_byte (by omega) E3 rfl (Yp3.ints.alloc _) rfl (by omega) (by simp; omega) ?_; intro A5 c5 w8 ho8 hg8 ha8; simp only [List.nil_append, Nat.zero_add] at ho8; have hs8 := hg8.size; have Yq8 := (Yq3.alloc (.cells #[] 5)).kept hg8 (fun ad he h => by have := (Yq3.lt_ ad he).2; have h : ad.block = w3.heap.size := (by simpa using h); omega)) | (at_builtin; refine wpList_appI _ rfl (.tmp 24) (.tmp 25) _ rfl 5 1 Tryz.underlying38 info_byte (by omega) ho8 rfl Yq8.ints rfl (by omega) (by simp at hs8; omega) ?_; intro A6 c6 w9 ho9 hg9 ha9))
  go_ret
  try simp only [List.nil_append, Nat.zero_add] at ho9
  exact ⟨A6, _, c6, rfl, ho9, below_own (below_own (R3.bel.alloc hs _) hg8 (by simp; omega) (fun ad h => by cases h; exact hs)) hg9 (by simp at hs8; omega) (fun ad h => (ho8.lt_ ad h).1)⟩
set_option maxRecDepth 100000 in
set_option maxHeartbeats 6400000 in
theorem rqread (A : Option Addr) (n c : Nat) (l : List Nat) (w : World) (hr : Byt w A n c l) (hn : n ≤ 70368744177664) : Calls Tryz.prog 43 #[.slice A n c] w fun e w' => ∃ b3 A3 n3 c3 b4 A4 n4 c4 A5 m5 c5, e = .returned (.tuple #[.agg #[.bool b3, .slice A3 n3 c3, .bool b4, .slice A4 n4 c4], .slice A5 m5 c5, .bool (qrok l)]) ∧ m5 ≤ n ∧ ZIs w' b3 A3 n3 c3 (qrv l).num 4096 true ∧ ZIs w' b4 A4 n4 c4 ((qrv l).den : Int) 4096 true ∧ Byt w' A5 m5 c5 (qrl l) ∧ Below w.heap.size w w' := by
  obtain ⟨b1, hb1⟩ : ∃ b, zrok l = b := ⟨_, rfl⟩
  obtain ⟨b2, hb2⟩ : ∃ b, zrok (zrl l) = b := ⟨_, rfl⟩
  obtain ⟨x, hx⟩ : ∃ x, zrv l = x := ⟨_, rfl⟩
  obtain ⟨y, hy⟩ : ∃ y, zrv (zrl l) = y := ⟨_, rfl⟩
  have hok := qrok_of hb1 hb2 hx hy
  have hv1 := qrv_yes (l := l)
  have hv2 := qrl_yes (l := l)
  rw [hx, hy] at hv1
  have z1 := fun w0 h0 => rzread A n c l w0 h0 hn
  have z2 := fun A n c w0 h0 (hn : n ≤ 70368744177664) => rzread A n c (zrl l) w0 h0 hn
  rw [hb1, hx] at z1
  rw [hb2, hy] at z2
  have n1 := qrv_no (l := l)
  have n2 := qrl_no (l := l)
  have HV1 := Lib.hid hv1
  have HV2 := Lib.hid hv2
  have HN1 := Lib.hid n1
  have HN2 := Lib.hid n2
  have R0 := (Env.nil_ w).alloc 26 #[.bool false, .slice none 0 0, .bool false, .slice none 0 0] (g := w.heap.size) rfl rfl
  have Y0 := hr.alloc (.cells #[.bool false, .slice none 0 0, .bool false, .slice none 0 0] 26)
  clear hb1 hb2 hx hy hv1 hv2 n1 n2 hr
  cases b1
  · simp only [Bool.false_and] at hok
    have HOK := Lib.hid hok
    clear hok
    go_enter Tryz.func43, Tryz.ntmps43
    go_wp2_with fail
    refine (z1 _ Y0).mono ?_; rintro e w1 ⟨b_x, A_x, n_x, c_x, A_rest, m_rest, c_rest, rfl, hm_rest, z_x, y_rest, hb1⟩
    have R1 := (((R0.below hb1).add z_x).alloc 24 #[.bool b_x, .slice A_x n_x c_x] (g := w1.heap.size) rfl rfl)
    have Yb1 := ((Y0.below hb1).alloc (.cells #[.bool b_x, .slice A_x n_x c_x] 24))
    have Yrest1 := (y_rest.alloc (.cells #[.bool b_x, .slice A_x n_x c_x] 24))
    go_wp2_with fail
    refine (rqzero _).mono ?_; rintro e w2 ⟨b_p, A_p, n_p, c_p, b_q, A_q, n_q, c_q, rfl, z_p, z_q, hb2⟩
    have R2 := (((R1.below hb2).add z_p).add z_q)
    have Yb2 := (Yb1.below hb2)
    have Yrest2 := (Yrest1.below hb2)
    have zr0 := R2.cell 1 0 rfl rfl
    have zr1 := R2.cell 1 1 rfl rfl
    have zr2 := R2.cell 1 2 rfl rfl
    have zr3 := R2.cell 1 3 rfl rfl
    have zfr0 := R2.frozen 1 0 rfl
    have zfr1 := R2.frozen 1 1 rfl
    have zfr2 := R2.frozen 1 2 rfl
    have zfr3 := R2.frozen 1 3 rfl
    go_wp2_with fail
    have R9_ := R2.st4 1 (.bool b_p) (.slice A_p n_p c_p) (.bool b_q) (.slice A_q n_q c_q) rfl rfl rfl rfl rfl
    refine bodyPost_ret (results_row_tmp2 rfl _ _ (w.heap.size) 26 #[.bool b_p, .slice A_p n_p c_p, .bool b_q, .slice A_q n_q c_q] (0, 0) _ rfl (R9_.b 1 rfl).is Tryz.underlying26 rfl (by kernel_rfl)) rfl ?_
    rw [HOK.out, HN1.out HOK.out, HN2.out HOK.out]
    exact ⟨_, _, _, _, _, _, _, _, none, 0, 0, rfl, Nat.zero_le _, (R9_.z 1 rfl).mono (by omega), (R9_.z 0 rfl).mono (by omega), Ints.nil_ .., R9_.bel⟩
  cases b2
  · simp only [Bool.and_false, Bool.false_and] at hok
    have HOK := Lib.hid hok
    clear hok
    go_enter Tryz.func43, Tryz.ntmps43
    go_wp2_with fail
    refine (z1 _ Y0).mono ?_; rintro e w1 ⟨b_x, A_x, n_x, c_x, A_rest, m_rest, c_rest, rfl, hm_rest, z_x, y_rest, hb1⟩
    have R1 := (((R0.below hb1).add z_x).alloc 24 #[.bool b_x, .slice A_x n_x c_x] (g := w1.heap.size) rfl rfl)
    have Yb1 := ((Y0.below hb1).alloc (.cells #[.bool b_x, .slice A_x n_x c_x] 24))
    have Yrest1 := (y_rest.alloc (.cells #[.bool b_x, .slice A_x n_x c_x] 24))
    go_wp2_with fail
    refine (z2 _ _ _ _ Yrest1 (by omega)).mono ?_; rintro e w2 ⟨b_y, A_y, n_y, c_y, A_left, m_left, c_left, rfl, hm_left, z_y, y_left, hb2⟩
    have R2 := (((R1.below hb2).add z_y).alloc 24 #[.bool b_y, .slice A_y n_y c_y] (g := w2.heap.size) rfl rfl)
    have Yrest2 := ((Yrest1.below hb2).alloc (.cells #[.bool b_y, .slice A_y n_y c_y] 24))
    have Yleft2 := (y_left.alloc (.cells #[.bool b_y, .slice A_y n_y c_y] 24))
    have kx0 := R2.cell 1 0 rfl rfl
    have kx1 := R2.cell 1 1 rfl rfl
    have ky0 := R2.cell 0 0 rfl rfl
    have ky1 := R2.cell 0 1 rfl rfl
    have Ra := R2.alloc 26 #[.bool b_x, .slice A_x n_x c_x, .bool b_y, .slice A_y n_y c_y] (g := w2.heap.size + 1) (by simp) rfl
    have YLa := Yleft2.alloc (.cells #[.bool b_x, .slice A_x n_x c_x, .bool b_y, .slice A_y n_y c_y] 26)
    go_wp2_with fail
    clear kx0 kx1 ky0 ky1
    have D3 := Ra.drew
    have Yleft3 := YLa.drew
    have s3 := And.intro (D3.cell 0 0 rfl rfl) (And.intro (D3.cell 0 1 rfl rfl) (And.intro (D3.cell 0 2 rfl rfl) (D3.cell 0 3 rfl rfl)))
    refine wp_region_late [] (fun w' => w'.cell? ⟨w2.heap.size + 1, 0, none⟩ = some (.bool b_x) ∧ w'.cell? ⟨w2.heap.size + 1, 1, none⟩ = some (.slice A_x n_x c_x) ∧ w'.cell? ⟨w2.heap.size + 1, 2, none⟩ = some (.bool b_y) ∧ w'.cell? ⟨w2.heap.size + 1, 3, none⟩ = some (.slice A_y n_y c_y)) (by kernel_rfl) ?_
    refine wpAnyL_take (i := 0) (v := ?_) rfl (by kernel_rfl) (by kernel_rfl) (by kernel_rfl) (by kernel_rfl) (by kernel_rfl) (fun _ _ _ h => h) (Or.inl ⟨by kernel_rfl, ?_⟩) s3 ?_
    rotate_left
    · rintro w' ⟨h1, h2, h3, h4⟩; go_simp; (try with_reducible rfl)
    try simp only [Act.put, List.getElem_toArray, List.getElem_cons_succ, List.getElem_cons_zero, List.setIfInBounds_toArray, List.set_cons_zero, List.set_cons_succ]
    refine wpAnyL_take (i := 1) (v := ?_) rfl (by kernel_rfl) (by kernel_rfl) (by kernel_rfl) (by kernel_rfl) (by kernel_rfl) (fun _ _ _ h => h) (Or.inl ⟨by kernel_rfl, ?_⟩) s3 ?_
    rotate_left
    · rintro w' ⟨h1, h2, h3, h4⟩; go_simp; (try with_reducible rfl)
    try simp only [Act.put, List.getElem_toArray, List.getElem_cons_succ, List.getElem_cons_zero, List.setIfInBounds_toArray, List.set_cons_zero, List.set_cons_succ]
    refine wpAnyL_take (i := 2) (v := ?_) rfl (by kernel_rfl) (by kernel_rfl) (by kernel_rfl) (by kernel_rfl) (by kernel_rfl) (fun _ _ _ h => h) (Or.inl ⟨by kernel_rfl, ?_⟩) s3 ?_
    rotate_left
    · rintro w' ⟨h1, h2, h3, h4⟩; go_simp; (try with_reducible rfl)
    try simp only [Act.put, List.getElem_toArray, List.getElem_cons_succ, List.getElem_cons_zero, List.setIfInBounds_toArray, List.set_cons_zero, List.set_cons_succ]
    refine wpAnyL_take (i := 3) (v := undef) rfl (by kernel_rfl) (by kernel_rfl) (by kernel_rfl) (by kernel_rfl) (by kernel_rfl) (fun _ _ _ h => h) (Or.inr ⟨by kernel_rfl, rfl⟩) s3 ?_
    try simp only [Act.put, List.getElem_toArray, List.getElem_cons_succ, List.getElem_cons_zero, List.setIfInBounds_toArray, List.set_cons_zero, List.set_cons_succ]
    refine wpAnyL_one (i := 4) (by kernel_rfl) rfl (fun K hK => ?_)
    rw [if_neg (Bool.eq_false_iff.1 (by kernel_rfl))]
    refine hK.out _ _ (fun _ => s3) ?_
    clear hK K
    try simp only [Act.put, List.getElem_toArray, List.getElem_cons_succ, List.getElem_cons_zero, List.setIfInBounds_toArray, List.set_cons_zero, List.set_cons_succ]
    refine wpAnyL_take (i := 5) (v := undef) rfl (by kernel_rfl) (by kernel_rfl) (by kernel_rfl) (by kernel_rfl) (by kernel_rfl) (fun _ _ _ h => h) (Or.inr ⟨by kernel_rfl, rfl⟩) s3 ?_
    try simp only [Act.put, List.getElem_toArray, List.getElem_cons_succ, List.getElem_cons_zero, List.setIfInBounds_toArray, List.set_cons_zero, List.set_cons_succ]
    refine wpAnyL_take (i := 6) (v := ?_) rfl (by kernel_rfl) (by kernel_rfl) (by kernel_rfl) (by kernel_rfl) (by kernel_rfl) (fun _ _ _ h => h) (Or.inl ⟨by kernel_rfl, ?_⟩) s3 ?_
    rotate_left
    · rintro w' ⟨h1, h2, h3, h4⟩; go_simp; (try with_reducible rfl)
    try simp only [Act.put, List.getElem_toArray, List.getElem_cons_succ, List.getElem_cons_zero, List.setIfInBounds_toArray, List.set_cons_zero, List.set_cons_succ]
    refine wpAnyL_take (i := 7) (v := ?_) rfl (by kernel_rfl) (by kernel_rfl) (by kernel_rfl) (by kernel_rfl) (by kernel_rfl) (fun _ _ _ h => h) (Or.inl ⟨by kernel_rfl, ?_⟩) s3 ?_
    rotate_left
    · rintro w' ⟨h1, h2, h3, h4⟩; go_simp; (try with_reducible rfl)
    try simp only [Act.put, List.getElem_toArray, List.getElem_cons_succ, List.getElem_cons_zero, List.setIfInBounds_toArray, List.set_cons_zero, List.set_cons_succ]
    refine wpAnyL_take (i := 8) (v := undef) rfl (by kernel_rfl) (by kernel_rfl) (by kernel_rfl) (by kernel_rfl) (by kernel_rfl) (fun _ _ _ h => h) (Or.inr ⟨by kernel_rfl, rfl⟩) s3 ?_
    try simp only [Act.put, List.getElem_toArray, List.getElem_cons_succ, List.getElem_cons_zero, List.setIfInBounds_toArray, List.set_cons_zero, List.set_cons_succ]
    refine wpAnyL_take (i := 10) (v := undef) rfl (by kernel_rfl) (by kernel_rfl) (by kernel_rfl) (by kernel_rfl) (by kernel_rfl) (fun _ _ _ h => h) (Or.inr ⟨by kernel_rfl, rfl⟩) s3 ?_
    try simp only [Act.put, List.getElem_toArray, List.getElem_cons_succ, List.getElem_cons_zero, List.setIfInBounds_toArray, List.set_cons_zero, List.set_cons_succ]
    refine wpAnyL_one (i := 9) (by kernel_rfl) rfl (fun K hK => ?_)
    rw [if_neg (Bool.eq_false_iff.1 (by kernel_rfl))]
    refine hK.out _ _ (fun _ => s3) ?_
    clear hK K
    try simp only [Act.put, List.getElem_toArray, List.getElem_cons_succ, List.getElem_cons_zero, List.setIfInBounds_toArray, List.set_cons_zero, List.set_cons_succ]
    refine wpAnyL_one (i := 11) (by kernel_rfl) rfl (fun K hK => ?_)
    rw [if_neg (Bool.eq_false_iff.1 (by kernel_rfl))]
    refine hK.out _ _ (fun _ => s3) ?_
    clear hK K
    try simp only [Act.put, List.getElem_toArray, List.getElem_cons_succ, List.getElem_cons_zero, List.setIfInBounds_toArray, List.set_cons_zero, List.set_cons_succ]
    refine wpAnyL_take (i := 12) (v := undef) rfl (by kernel_rfl) (by kernel_rfl) (by kernel_rfl) (by kernel_rfl) (by kernel_rfl) (fun _ _ _ h => h) (Or.inr ⟨by kernel_rfl, rfl⟩) s3 ?_
    try simp only [Act.put, List.getElem_toArray, List.getElem_cons_succ, List.getElem_cons_zero, List.setIfInBounds_toArray, List.set_cons_zero, List.set_cons_succ]
    refine wpAnyL_take (i := 13) (v := ?_) rfl (by kernel_rfl) (by kernel_rfl) (by kernel_rfl) (by kernel_rfl) (by kernel_rfl) (fun _ _ _ h => h) (Or.inl ⟨by kernel_rfl, ?_⟩) s3 ?_
    rotate_left
    · rintro w' ⟨h1, h2, h3, h4⟩; go_simp; (try with_reducible rfl)
    try simp only [Act.put, List.getElem_toArray, List.getElem_cons_succ, List.getElem_cons_zero, List.setIfInBounds_toArray, List.set_cons_zero, List.set_cons_succ]
    refine wpAnyL_done (by kernel_rfl) ?_ _
    go_wp2_with fail
    refine (rqzero _).mono ?_; rintro e w4 ⟨b_p, A_p, n_p, c_p, b_q, A_q, n_q, c_q, rfl, z_p, z_q, hb4⟩
    have R4 := (((D3.below hb4).add z_p).add z_q)
    have Yleft4 := (Yleft3.below hb4)
    have zr0 := R4.cell 3 0 rfl rfl
    have zr1 := R4.cell 3 1 rfl rfl
    have zr2 := R4.cell 3 2 rfl rfl
    have zr3 := R4.cell 3 3 rfl rfl
    have zfr0 := R4.frozen 3 0 rfl
    have zfr1 := R4.frozen 3 1 rfl
    have zfr2 := R4.frozen 3 2 rfl
    have zfr3 := R4.frozen 3 3 rfl
    go_wp2_with fail
    have R9_ := R4.st4 3 (.bool b_p) (.slice A_p n_p c_p) (.bool b_q) (.slice A_q n_q c_q) rfl rfl rfl rfl rfl
    refine bodyPost_ret (results_row_tmp2 rfl _ _ (w.heap.size) 26 #[.bool b_p, .slice A_p n_p c_p, .bool b_q, .slice A_q n_q c_q] (0, 0) _ rfl (R9_.b 3 rfl).is Tryz.underlying26 rfl (by kernel_rfl)) rfl ?_
    rw [HOK.out, HN1.out HOK.out, HN2.out HOK.out]
    exact ⟨_, _, _, _, _, _, _, _, none, 0, 0, rfl, Nat.zero_le _, (R9_.z 1 rfl).mono (by omega), (R9_.z 0 rfl).mono (by omega), Ints.nil_ .., R9_.bel⟩
  by_cases h0 : 0 < y
  · obtain ⟨r, hr⟩ : ∃ r, qv x y = r := ⟨_, rfl⟩
    obtain ⟨d, hd⟩ : ∃ b, decide (r.num = x ∧ (r.den : Int) = y) = b := ⟨_, rfl⟩
    have hok : qrok l = d := by rw [hok, hr, decide_eq_true h0, ← hd]; simp
    have HRR := Lib.hid hr
    have HD := Lib.hid hd
    have HOK := Lib.hid hok
    clear hr hd hok
    cases d
    · skip
      go_enter Tryz.func43, Tryz.ntmps43
      go_wp2_with fail
      refine (z1 _ Y0).mono ?_; rintro e w1 ⟨b_x, A_x, n_x, c_x, A_rest, m_rest, c_rest, rfl, hm_rest, z_x, y_rest, hb1⟩
      have R1 := (((R0.below hb1).add z_x).alloc 24 #[.bool b_x, .slice A_x n_x c_x] (g := w1.heap.size) rfl rfl)
      have Yb1 := ((Y0.below hb1).alloc (.cells #[.bool b_x, .slice A_x n_x c_x] 24))
      have Yrest1 := (y_rest.alloc (.cells #[.bool b_x, .slice A_x n_x c_x] 24))
      go_wp2_with fail
      refine (z2 _ _ _ _ Yrest1 (by omega)).mono ?_; rintro e w2 ⟨b_y, A_y, n_y, c_y, A_left, m_left, c_left, rfl, hm_left, z_y, y_left, hb2⟩
      have R2 := (((R1.below hb2).add z_y).alloc 24 #[.bool b_y, .slice A_y n_y c_y] (g := w2.heap.size) rfl rfl)
      have Yrest2 := ((Yrest1.below hb2).alloc (.cells #[.bool b_y, .slice A_y n_y c_y] 24))
      have Yleft2 := (y_left.alloc (.cells #[.bool b_y, .slice A_y n_y c_y] 24))
      have kx0 := R2.cell 1 0 rfl rfl
      have kx1 := R2.cell 1 1 rfl rfl
      have ky0 := R2.cell 0 0 rfl rfl
      have ky1 := R2.cell 0 1 rfl rfl
      have Ra := R2.alloc 26 #[.bool b_x, .slice A_x n_x c_x, .bool b_y, .slice A_y n_y c_y] (g := w2.heap.size + 1) (by simp) rfl
      have YLa := Yleft2.alloc (.cells #[.bool b_x, .slice A_x n_x c_x, .bool b_y, .slice A_y n_y c_y] 26)
      go_wp2_with fail
      clear kx0 kx1 ky0 ky1
      have D3 := Ra.drew
      have Yleft3 := YLa.drew
      have s3 := And.intro (D3.cell 0 0 rfl rfl) (And.intro (D3.cell 0 1 rfl rfl) (And.intro (D3.cell 0 2 rfl rfl) (D3.cell 0 3 rfl rfl)))
      refine wp_region_late [] (fun w' => w'.cell? ⟨w2.heap.size + 1, 0, none⟩ = some (.bool b_x) ∧ w'.cell? ⟨w2.heap.size + 1, 1, none⟩ = some (.slice A_x n_x c_x) ∧ w'.cell? ⟨w2.heap.size + 1, 2, none⟩ = some (.bool b_y) ∧ w'.cell? ⟨w2.heap.size + 1, 3, none⟩ = some (.slice A_y n_y c_y)) (by kernel_rfl) ?_
      refine wpAnyL_take (i := 0) (v := ?_) rfl (by kernel_rfl) (by kernel_rfl) (by kernel_rfl) (by kernel_rfl) (by kernel_rfl) (fun _ _ _ h => h) (Or.inl ⟨by kernel_rfl, ?_⟩) s3 ?_
      rotate_left
      · rintro w' ⟨h1, h2, h3, h4⟩; go_simp; (try with_reducible rfl)
      try simp only [Act.put, List.getElem_toArray, List.getElem_cons_succ, List.getElem_cons_zero, List.setIfInBounds_toArray, List.set_cons_zero, List.set_cons_succ]
      refine wpAnyL_take (i := 1) (v := ?_) rfl (by kernel_rfl) (by kernel_rfl) (by kernel_rfl) (by kernel_rfl) (by kernel_rfl) (fun _ _ _ h => h) (Or.inl ⟨by kernel_rfl, ?_⟩) s3 ?_
      rotate_left
      · rintro w' ⟨h1, h2, h3, h4⟩; go_simp; (try with_reducible rfl)
      try simp only [Act.put, List.getElem_toArray, List.getElem_cons_succ, List.getElem_cons_zero, List.setIfInBounds_toArray, List.set_cons_zero, List.set_cons_succ]
      refine wpAnyL_take (i := 2) (v := ?_) rfl (by kernel_rfl) (by kernel_rfl) (by kernel_rfl) (by kernel_rfl) (by kernel_rfl) (fun _ _ _ h => h) (Or.inl ⟨by kernel_rfl, ?_⟩) s3 ?_
      rotate_left
      · rintro w' ⟨h1, h2, h3, h4⟩; go_simp; (try with_reducible rfl)
      try simp only [Act.put, List.getElem_toArray, List.getElem_cons_succ, List.getElem_cons_zero, List.setIfInBounds_toArray, List.set_cons_zero, List.set_cons_succ]
      refine wpAnyL_take (i := 3) (v := .agg #[.bool b_x, .slice A_x n_x c_x, .bool b_y, .slice A_y n_y c_y]) rfl (by kernel_rfl) (by kernel_rfl) (by kernel_rfl) (by kernel_rfl) (by kernel_rfl) (fun _ _ _ h => h) (Or.inl ⟨by rfl, by rintro w' ⟨h1, h2, h3, h4⟩; go_simp⟩) s3 ?_
      try simp only [Act.put, List.getElem_toArray, List.getElem_cons_succ, List.getElem_cons_zero, List.setIfInBounds_toArray, List.set_cons_zero, List.set_cons_succ]
      refine wpAnyL_one (i := 4) (by kernel_rfl) rfl (fun K hK => ?_)
      go_simp
      refine (rqmay (D3.z 1 rfl) (D3.z 0 rfl) (by omega) (decide_eq_true h0)).mono ?_; rintro e w4 ⟨rfl, hb4⟩
      have R4 := (D3.below hb4)
      have Yleft4 := Yleft3.below hb4
      have s4 := And.intro (R4.cell 0 0 rfl rfl) (And.intro (R4.cell 0 1 rfl rfl) (And.intro (R4.cell 0 2 rfl rfl) (R4.cell 0 3 rfl rfl)))
      go_wp2_with fail
      refine hK.out _ _ (fun _ => s4) ?_
      clear hK K
      try simp only [Act.put, List.getElem_toArray, List.getElem_cons_succ, List.getElem_cons_zero, List.setIfInBounds_toArray, List.set_cons_zero, List.set_cons_succ]
      refine wpAnyL_take (i := 5) (v := ?_) rfl (by kernel_rfl) (by kernel_rfl) (by kernel_rfl) (by kernel_rfl) (by kernel_rfl) (fun _ _ _ h => h) (Or.inl ⟨by kernel_rfl, ?_⟩) s4 ?_
      rotate_left
      · rintro w' ⟨h1, h2, h3, h4⟩; go_simp; (try with_reducible rfl)
      try simp only [Act.put, List.getElem_toArray, List.getElem_cons_succ, List.getElem_cons_zero, List.setIfInBounds_toArray, List.set_cons_zero, List.set_cons_succ]
      refine wpAnyL_take (i := 6) (v := ?_) rfl (by kernel_rfl) (by kernel_rfl) (by kernel_rfl) (by kernel_rfl) (by kernel_rfl) (fun _ _ _ h => h) (Or.inl ⟨by kernel_rfl, ?_⟩) s4 ?_
      rotate_left
      · rintro w' ⟨h1, h2, h3, h4⟩; go_simp; (try with_reducible rfl)
      try simp only [Act.put, List.getElem_toArray, List.getElem_cons_succ, List.getElem_cons_zero, List.setIfInBounds_toArray, List.set_cons_zero, List.set_cons_succ]
      refine wpAnyL_take (i := 7) (v := ?_) rfl (by kernel_rfl) (by kernel_rfl) (by kernel_rfl) (by kernel_rfl) (by kernel_rfl) (fun _ _ _ h => h) (Or.inl ⟨by kernel_rfl, ?_⟩) s4 ?_
      rotate_left
      · rintro w' ⟨h1, h2, h3, h4⟩; go_simp; (try with_reducible rfl)
      try simp only [Act.put, List.getElem_toArray, List.getElem_cons_succ, List.getElem_cons_zero, List.setIfInBounds_toArray, List.set_cons_zero, List.set_cons_succ]
      refine wpAnyL_take (i := 8) (v := .agg #[.bool b_x, .slice A_x n_x c_x, .bool b_y, .slice A_y n_y c_y]) rfl (by kernel_rfl) (by kernel_rfl) (by kernel_rfl) (by kernel_rfl) (by kernel_rfl) (fun _ _ _ h => h) (Or.inl ⟨by rfl, by rintro w' ⟨h1, h2, h3, h4⟩; go_simp⟩) s4 ?_
      try simp only [Act.put, List.getElem_toArray, List.getElem_cons_succ, List.getElem_cons_zero, List.setIfInBounds_toArray, List.set_cons_zero, List.set_cons_succ]
      refine wpAnyL_take (i := 10) (v := .agg #[.bool b_x, .slice A_x n_x c_x, .bool b_y, .slice A_y n_y c_y]) rfl (by kernel_rfl) (by kernel_rfl) (by kernel_rfl) (by kernel_rfl) (by kernel_rfl) (fun _ _ _ h => h) (Or.inl ⟨by rfl, by rintro w' ⟨h1, h2, h3, h4⟩; go_simp⟩) s4 ?_
      try simp only [Act.put, List.getElem_toArray, List.getElem_cons_succ, List.getElem_cons_zero, List.setIfInBounds_toArray, List.set_cons_zero, List.set_cons_succ]
      refine wpAnyL_one (i := 9) (by kernel_rfl) rfl (fun K hK => ?_)
      go_simp
      refine (rqplain (K := 4096) (R4.z 1 rfl) (R4.z 0 rfl) (by omega) (by omega) (by omega) (by omega) HRR.out).mono ?_; rintro e w5 ⟨b_s, A_s, n_s, c_s, b_t, A_t, n_t, c_t, rfl, z_s, z_t, hb5⟩
      have R5 := (((R4.below hb5).add z_s).add z_t)
      have Yleft5 := Yleft4.below hb5
      have s5 := And.intro (R5.cell 0 0 rfl rfl) (And.intro (R5.cell 0 1 rfl rfl) (And.intro (R5.cell 0 2 rfl rfl) (R5.cell 0 3 rfl rfl)))
      go_wp2_with fail
      refine hK.out _ _ (fun _ => s5) ?_
      clear hK K
      try simp only [Act.put, List.getElem_toArray, List.getElem_cons_succ, List.getElem_cons_zero, List.setIfInBounds_toArray, List.set_cons_zero, List.set_cons_succ]
      refine wpAnyL_one (i := 11) (by kernel_rfl) rfl (fun K hK => ?_)
      go_simp
      refine (rqsame (R5.z 1 rfl) (R5.z 0 rfl) (R5.z 3 rfl) (R5.z 2 rfl) (by omega) (by omega) (by omega) (by omega) HD.out).mono ?_; rintro e w6 ⟨rfl, hb6⟩
      have R6 := (R5.below hb6)
      have Yleft6 := Yleft5.below hb6
      have s6 := And.intro (R6.cell 0 0 rfl rfl) (And.intro (R6.cell 0 1 rfl rfl) (And.intro (R6.cell 0 2 rfl rfl) (R6.cell 0 3 rfl rfl)))
      go_wp2_with fail
      refine hK.out _ _ (fun _ => s6) ?_
      clear hK K
      try simp only [Act.put, List.getElem_toArray, List.getElem_cons_succ, List.getElem_cons_zero, List.setIfInBounds_toArray, List.set_cons_zero, List.set_cons_succ]
      refine wpAnyL_take (i := 12) (v := ?_) rfl (by kernel_rfl) (by kernel_rfl) (by kernel_rfl) (by kernel_rfl) (by kernel_rfl) (fun _ _ _ h => h) (Or.inl ⟨by kernel_rfl, ?_⟩) s6 ?_
      rotate_left
      · rintro w' ⟨h1, h2, h3, h4⟩; go_simp; (try with_reducible rfl)
      try simp only [Act.put, List.getElem_toArray, List.getElem_cons_succ, List.getElem_cons_zero, List.setIfInBounds_toArray, List.set_cons_zero, List.set_cons_succ]
      refine wpAnyL_take (i := 13) (v := ?_) rfl (by kernel_rfl) (by kernel_rfl) (by kernel_rfl) (by kernel_rfl) (by kernel_rfl) (fun _ _ _ h => h) (Or.inl ⟨by kernel_rfl, ?_⟩) s6 ?_
      rotate_left
      · rintro w' ⟨h1, h2, h3, h4⟩; go_simp; (try with_reducible rfl)
      try simp only [Act.put, List.getElem_toArray, List.getElem_cons_succ, List.getElem_cons_zero, List.setIfInBounds_toArray, List.set_cons_zero, List.set_cons_succ]
      refine wpAnyL_done (by kernel_rfl) ?_ _
      go_wp2_with fail
      refine (rqzero _).mono ?_; rintro e w7 ⟨b_p, A_p, n_p, c_p, b_q, A_q, n_q, c_q, rfl, z_p, z_q, hb7⟩
      have R7 := (((R6.below hb7).add z_p).add z_q)
      have Yleft7 := (Yleft6.below hb7)
      have zr0 := R7.cell 3 0 rfl rfl
      have zr1 := R7.cell 3 1 rfl rfl
      have zr2 := R7.cell 3 2 rfl rfl
      have zr3 := R7.cell 3 3 rfl rfl
      have zfr0 := R7.frozen 3 0 rfl
      have zfr1 := R7.frozen 3 1 rfl
      have zfr2 := R7.frozen 3 2 rfl
      have zfr3 := R7.frozen 3 3 rfl
      go_wp2_with fail
      have R9_ := R7.st4 3 (.bool b_p) (.slice A_p n_p c_p) (.bool b_q) (.slice A_q n_q c_q) rfl rfl rfl rfl rfl
      refine bodyPost_ret (results_row_tmp2 rfl _ _ (w.heap.size) 26 #[.bool b_p, .slice A_p n_p c_p, .bool b_q, .slice A_q n_q c_q] (0, 0) _ rfl (R9_.b 3 rfl).is Tryz.underlying26 rfl (by kernel_rfl)) rfl ?_
      rw [HOK.out, HN1.out HOK.out, HN2.out HOK.out]
      exact ⟨_, _, _, _, _, _, _, _, none, 0, 0, rfl, Nat.zero_le _, (R9_.z 1 rfl).mono (by omega), (R9_.z 0 rfl).mono (by omega), Ints.nil_ .., R9_.bel⟩
    · skip
      go_enter Tryz.func43, Tryz.ntmps43
      go_wp2_with fail
      refine (z1 _ Y0).mono ?_; rintro e w1 ⟨b_x, A_x, n_x, c_x, A_rest, m_rest, c_rest, rfl, hm_rest, z_x, y_rest, hb1⟩
      have R1 := (((R0.below hb1).add z_x).alloc 24 #[.bool b_x, .slice A_x n_x c_x] (g := w1.heap.size) rfl rfl)
      have Yb1 := ((Y0.below hb1).alloc (.cells #[.bool b_x, .slice A_x n_x c_x] 24))
      have Yrest1 := (y_rest.alloc (.cells #[.bool b_x, .slice A_x n_x c_x] 24))
      go_wp2_with fail
      refine (z2 _ _ _ _ Yrest1 (by omega)).mono ?_; rintro e w2 ⟨b_y, A_y, n_y, c_y, A_left, m_left, c_left, rfl, hm_left, z_y, y_left, hb2⟩
      have R2 := (((R1.below hb2).add z_y).alloc 24 #[.bool b_y, .slice A_y n_y c_y] (g := w2.heap.size) rfl rfl)
      have Yrest2 := ((Yrest1.below hb2).alloc (.cells #[.bool b_y, .slice A_y n_y c_y] 24))
      have Yleft2 := (y_left.alloc (.cells #[.bool b_y, .slice A_y n_y c_y] 24))
      have kx0 := R2.cell 1 0 rfl rfl
      have kx1 := R2.cell 1 1 rfl rfl
      have ky0 := R2.cell 0 0 rfl rfl
      have ky1 := R2.cell 0 1 rfl rfl
      have Ra := R2.alloc 26 #[.bool b_x, .slice A_x n_x c_x, .bool b_y, .slice A_y n_y c_y] (g := w2.heap.size + 1) (by simp) rfl
      have YLa := Yleft2.alloc (.cells #[.bool b_x, .slice A_x n_x c_x, .bool b_y, .slice A_y n_y c_y] 26)
      go_wp2_with fail
      clear kx0 kx1 ky0 ky1
      have D3 := Ra.drew
      have Yleft3 := YLa.drew
      have s3 := And.intro (D3.cell 0 0 rfl rfl) (And.intro (D3.cell 0 1 rfl rfl) (And.intro (D3.cell 0 2 rfl rfl) (D3.cell 0 3 rfl rfl)))
      refine wp_region_late [] (fun w' => w'.cell? ⟨w2.heap.size + 1, 0, none⟩ = some (.bool b_x) ∧ w'.cell? ⟨w2.heap.size + 1, 1, none⟩ = some (.slice A_x n_x c_x) ∧ w'.cell? ⟨w2.heap.size + 1, 2, none⟩ = some (.bool b_y) ∧ w'.cell? ⟨w2.heap.size + 1, 3, none⟩ = some (.slice A_y n_y c_y)) (by kernel_rfl) ?_
      refine wpAnyL_take (i := 0) (v := ?_) rfl (by kernel_rfl) (by kernel_rfl) (by kernel_rfl) (by kernel_rfl) (by kernel_rfl) (fun _ _ _ h => h) (Or.inl ⟨by kernel_rfl, ?_⟩) s3 ?_
      rotate_left
      · rintro w' ⟨h1, h2, h3, h4⟩; go_simp; (try with_reducible rfl)
      try simp only [Act.put, List.getElem_toArray, List.getElem_cons_succ, List.getElem_cons_zero, List.setIfInBounds_toArray, List.set_cons_zero, List.set_cons_succ]
      refine wpAnyL_take (i := 1) (v := ?_) rfl (by kernel_rfl) (by kernel_rfl) (by kernel_rfl) (by kernel_rfl) (by kernel_rfl) (fun _ _ _ h => h) (Or.inl ⟨by kernel_rfl, ?_⟩) s3 ?_
      rotate_left
      · rintro w' ⟨h1, h2, h3, h4⟩; go_simp; (try with_reducible rfl)
      try simp only [Act.put, List.getElem_toArray, List.getElem_cons_succ, List.getElem_cons_zero, List.setIfInBounds_toArray, List.set_cons_zero, List.set_cons_succ]
      refine wpAnyL_take (i := 2) (v := ?_) rfl (by kernel_rfl) (by kernel_rfl) (by kernel_rfl) (by kernel_rfl) (by kernel_rfl) (fun _ _ _ h => h) (Or.inl ⟨by kernel_rfl, ?_⟩) s3 ?_
      rotate_left
      · rintro w' ⟨h1, h2, h3, h4⟩; go_simp; (try with_reducible rfl)
      try simp only [Act.put, List.getElem_toArray, List.getElem_cons_succ, List.getElem_cons_zero, List.setIfInBounds_toArray, List.set_cons_zero, List.set_cons_succ]
      refine wpAnyL_take (i := 3) (v := .agg #[.bool b_x, .slice A_x n_x c_x, .bool b_y, .slice A_y n_y c_y]) rfl (by kernel_rfl) (by kernel_rfl) (by kernel_rfl) (by kernel_rfl) (by kernel_rfl) (fun _ _ _ h => h) (Or.inl ⟨by rfl, by rintro w' ⟨h1, h2, h3, h4⟩; go_simp⟩) s3 ?_
      try simp only [Act.put, List.getElem_toArray, List.getElem_cons_succ, List.getElem_cons_zero, List.setIfInBounds_toArray, List.set_cons_zero, List.set_cons_succ]
      refine wpAnyL_one (i := 4) (by kernel_rfl) rfl (fun K hK => ?_)
      go_simp
      refine (rqmay (D3.z 1 rfl) (D3.z 0 rfl) (by omega) (decide_eq_true h0)).mono ?_; rintro e w4 ⟨rfl, hb4⟩
      have R4 := (D3.below hb4)
      have Yleft4 := Yleft3.below hb4
      have s4 := And.intro (R4.cell 0 0 rfl rfl) (And.intro (R4.cell 0 1 rfl rfl) (And.intro (R4.cell 0 2 rfl rfl) (R4.cell 0 3 rfl rfl)))
      go_wp2_with fail
      refine hK.out _ _ (fun _ => s4) ?_
      clear hK K
      try simp only [Act.put, List.getElem_toArray, List.getElem_cons_succ, List.getElem_cons_zero, List.setIfInBounds_toArray, List.set_cons_zero, List.set_cons_succ]
      refine wpAnyL_take (i := 5) (v := ?_) rfl (by kernel_rfl) (by kernel_rfl) (by kernel_rfl) (by kernel_rfl) (by kernel_rfl) (fun _ _ _ h => h) (Or.inl ⟨by kernel_rfl, ?_⟩) s4 ?_
      rotate_left
      · rintro w' ⟨h1, h2, h3, h4⟩; go_simp; (try with_reducible rfl)
      try simp only [Act.put, List.getElem_toArray, List.getElem_cons_succ, List.getElem_cons_zero, List.setIfInBounds_toArray, List.set_cons_zero, List.set_cons_succ]
      refine wpAnyL_take (i := 6) (v := ?_) rfl (by kernel_rfl) (by kernel_rfl) (by kernel_rfl) (by kernel_rfl) (by kernel_rfl) (fun _ _ _ h => h) (Or.inl ⟨by kernel_rfl, ?_⟩) s4 ?_
      rotate_left
      · rintro w' ⟨h1, h2, h3, h4⟩; go_simp; (try with_reducible rfl)
      try simp only [Act.put, List.getElem_toArray, List.getElem_cons_succ, List.getElem_cons_zero, List.setIfInBounds_toArray, List.set_cons_zero, List.set_cons_succ]
      refine wpAnyL_take (i := 7) (v := ?_) rfl (by kernel_rfl) (by kernel_rfl) (by kernel_rfl) (by kernel_rfl) (by kernel_rfl) (fun _ _ _ h => h) (Or.inl ⟨by kernel_rfl, ?_⟩) s4 ?_
      rotate_left
      · rintro w' ⟨h1, h2, h3, h4⟩; go_simp; (try with_reducible rfl)
      try simp only [Act.put, List.getElem_toArray, List.getElem_cons_succ, List.getElem_cons_zero, List.setIfInBounds_toArray, List.set_cons_zero, List.set_cons_succ]
      refine wpAnyL_take (i := 8) (v := .agg #[.bool b_x, .slice A_x n_x c_x, .bool b_y, .slice A_y n_y c_y]) rfl (by kernel_rfl) (by kernel_rfl) (by kernel_rfl) (by kernel_rfl) (by kernel_rfl) (fun _ _ _ h => h) (Or.inl ⟨by rfl, by rintro w' ⟨h1, h2, h3, h4⟩; go_simp⟩) s4 ?_
      try simp only [Act.put, List.getElem_toArray, List.getElem_cons_succ, List.getElem_cons_zero, List.setIfInBounds_toArray, List.set_cons_zero, List.set_cons_succ]
      refine wpAnyL_take (i := 10) (v := .agg #[.bool b_x, .slice A_x n_x c_x, .bool b_y, .slice A_y n_y c_y]) rfl (by kernel_rfl) (by kernel_rfl) (by kernel_rfl) (by kernel_rfl) (by kernel_rfl) (fun _ _ _ h => h) (Or.inl ⟨by rfl, by rintro w' ⟨h1, h2, h3, h4⟩; go_simp⟩) s4 ?_
      try simp only [Act.put, List.getElem_toArray, List.getElem_cons_succ, List.getElem_cons_zero, List.setIfInBounds_toArray, List.set_cons_zero, List.set_cons_succ]
      refine wpAnyL_one (i := 9) (by kernel_rfl) rfl (fun K hK => ?_)
      go_simp
      refine (rqplain (K := 4096) (R4.z 1 rfl) (R4.z 0 rfl) (by omega) (by omega) (by omega) (by omega) HRR.out).mono ?_; rintro e w5 ⟨b_s, A_s, n_s, c_s, b_t, A_t, n_t, c_t, rfl, z_s, z_t, hb5⟩
      have R5 := (((R4.below hb5).add z_s).add z_t)
      have Yleft5 := Yleft4.below hb5
      have s5 := And.intro (R5.cell 0 0 rfl rfl) (And.intro (R5.cell 0 1 rfl rfl) (And.intro (R5.cell 0 2 rfl rfl) (R5.cell 0 3 rfl rfl)))
      go_wp2_with fail
      refine hK.out _ _ (fun _ => s5) ?_
      clear hK K
      try simp only [Act.put, List.getElem_toArray, List.getElem_cons_succ, List.getElem_cons_zero, List.setIfInBounds_toArray, List.set_cons_zero, List.set_cons_succ]
      refine wpAnyL_one (i := 11) (by kernel_rfl) rfl (fun K hK => ?_)
      go_simp
      refine (rqsame (R5.z 1 rfl) (R5.z 0 rfl) (R5.z 3 rfl) (R5.z 2 rfl) (by omega) (by omega) (by omega) (by omega) HD.out).mono ?_; rintro e w6 ⟨rfl, hb6⟩
      have R6 := (R5.below hb6)
      have Yleft6 := Yleft5.below hb6
      have s6 := And.intro (R6.cell 0 0 rfl rfl) (And.intro (R6.cell 0 1 rfl rfl) (And.intro (R6.cell 0 2 rfl rfl) (R6.cell 0 3 rfl rfl)))
      go_wp2_with fail
      refine hK.out _ _ (fun _ => s6) ?_
      clear hK K
      try simp only [Act.put, List.getElem_toArray, List.getElem_cons_succ, List.getElem_cons_zero, List.setIfInBounds_toArray, List.set_cons_zero, List.set_cons_succ]
      refine wpAnyL_take (i := 12) (v := ?_) rfl (by kernel_rfl) (by kernel_rfl) (by kernel_rfl) (by kernel_rfl) (by kernel_rfl) (fun _ _ _ h => h) (Or.inl ⟨by kernel_rfl, ?_⟩) s6 ?_
      rotate_left
      · rintro w' ⟨h1, h2, h3, h4⟩; go_simp; (try with_reducible rfl)
      try simp only [Act.put, List.getElem_toArray, List.getElem_cons_succ, List.getElem_cons_zero, List.setIfInBounds_toArray, List.set_cons_zero, List.set_cons_succ]
      refine wpAnyL_take (i := 13) (v := ?_) rfl (by kernel_rfl) (by kernel_rfl) (by kernel_rfl) (by kernel_rfl) (by kernel_rfl) (fun _ _ _ h => h) (Or.inl ⟨by kernel_rfl, ?_⟩) s6 ?_
      rotate_left
      · rintro w' ⟨h1, h2, h3, h4⟩; go_simp; (try with_reducible rfl)
      try simp only [Act.put, List.getElem_toArray, List.getElem_cons_succ, List.getElem_cons_zero, List.setIfInBounds_toArray, List.set_cons_zero, List.set_cons_succ]
      refine wpAnyL_done (by kernel_rfl) ?_ _
      have ya0 := R6.cell 0 0 rfl rfl
      have ya1 := R6.cell 0 1 rfl rfl
      have ya2 := R6.cell 0 2 rfl rfl
      have ya3 := R6.cell 0 3 rfl rfl
      have HNN := Lib.hid (of_decide_eq_true HD.out)
      have zr0 := R6.cell 3 0 rfl rfl
      have zr1 := R6.cell 3 1 rfl rfl
      have zr2 := R6.cell 3 2 rfl rfl
      have zr3 := R6.cell 3 3 rfl rfl
      have zfr0 := R6.frozen 3 0 rfl
      have zfr1 := R6.frozen 3 1 rfl
      have zfr2 := R6.frozen 3 2 rfl
      have zfr3 := R6.frozen 3 3 rfl
      go_wp2_with fail
      have R9_ := R6.st4 3 (.bool b_x) (.slice A_x n_x c_x) (.bool b_y) (.slice A_y n_y c_y) rfl rfl rfl rfl rfl
      refine bodyPost_ret (results_row_tmp2 rfl _ _ (w.heap.size) 26 #[.bool b_x, .slice A_x n_x c_x, .bool b_y, .slice A_y n_y c_y] (0, 0) _ rfl (R9_.b 3 rfl).is Tryz.underlying26 rfl (by kernel_rfl)) rfl ?_
      rw [HOK.out, HV1.out HOK.out, HV2.out HOK.out, HRR.out]
      exact ⟨_, _, _, _, _, _, _, _, _, _, _, rfl, by omega, (R9_.z 3 rfl).as HNN.out.1.symm, (R9_.z 2 rfl).as HNN.out.2.symm, Byt.st4 Yleft6 (R6.b 3 rfl) rfl rfl rfl rfl _ _ _ _ rfl rfl rfl, R9_.bel⟩
  · have hok2 : qrok l = false := by rw [hok, decide_eq_false h0]; rfl
    have HOK := Lib.hid hok2
    have H0 := Lib.hid h0
    clear hok hok2 h0
    go_enter Tryz.func43, Tryz.ntmps43
    go_wp2_with fail
    refine (z1 _ Y0).mono ?_; rintro e w1 ⟨b_x, A_x, n_x, c_x, A_rest, m_rest, c_rest, rfl, hm_rest, z_x, y_rest, hb1⟩
    have R1 := (((R0.below hb1).add z_x).alloc 24 #[.bool b_x, .slice A_x n_x c_x] (g := w1.heap.size) rfl rfl)
    have Yb1 := ((Y0.below hb1).alloc (.cells #[.bool b_x, .slice A_x n_x c_x] 24))
    have Yrest1 := (y_rest.alloc (.cells #[.bool b_x, .slice A_x n_x c_x] 24))
    go_wp2_with fail
    refine (z2 _ _ _ _ Yrest1 (by omega)).mono ?_; rintro e w2 ⟨b_y, A_y, n_y, c_y, A_left, m_left, c_left, rfl, hm_left, z_y, y_left, hb2⟩
    have R2 := (((R1.below hb2).add z_y).alloc 24 #[.bool b_y, .slice A_y n_y c_y] (g := w2.heap.size) rfl rfl)
    have Yrest2 := ((Yrest1.below hb2).alloc (.cells #[.bool b_y, .slice A_y n_y c_y] 24))
    have Yleft2 := (y_left.alloc (.cells #[.bool b_y, .slice A_y n_y c_y] 24))
    have kx0 := R2.cell 1 0 rfl rfl
    have kx1 := R2.cell 1 1 rfl rfl
    have ky0 := R2.cell 0 0 rfl rfl
    have ky1 := R2.cell 0 1 rfl rfl
    have Ra := R2.alloc 26 #[.bool b_x, .slice A_x n_x c_x, .bool b_y, .slice A_y n_y c_y] (g := w2.heap.size + 1) (by simp) rfl
    have YLa := Yleft2.alloc (.cells #[.bool b_x, .slice A_x n_x c_x, .bool b_y, .slice A_y n_y c_y] 26)
    go_wp2_with fail
    clear kx0 kx1 ky0 ky1
    have D3 := Ra.drew
    have Yleft3 := YLa.drew
    have s3 := And.intro (D3.cell 0 0 rfl rfl) (And.intro (D3.cell 0 1 rfl rfl) (And.intro (D3.cell 0 2 rfl rfl) (D3.cell 0 3 rfl rfl)))
    refine wp_region_late [] (fun w' => w'.cell? ⟨w2.heap.size + 1, 0, none⟩ = some (.bool b_x) ∧ w'.cell? ⟨w2.heap.size + 1, 1, none⟩ = some (.slice A_x n_x c_x) ∧ w'.cell? ⟨w2.heap.size + 1, 2, none⟩ = some (.bool b_y) ∧ w'.cell? ⟨w2.heap.size + 1, 3, none⟩ = some (.slice A_y n_y c_y)) (by kernel_rfl) ?_
    refine wpAnyL_take (i := 0) (v := ?_) rfl (by kernel_rfl) (by kernel_rfl) (by kernel_rfl) (by kernel_rfl) (by kernel_rfl) (fun _ _ _ h => h) (Or.inl ⟨by kernel_rfl, ?_⟩) s3 ?_
    rotate_left
    · rintro w' ⟨h1, h2, h3, h4⟩; go_simp; (try with_reducible rfl)
    try simp only [Act.put, List.getElem_toArray, List.getElem_cons_succ, List.getElem_cons_zero, List.setIfInBounds_toArray, List.set_cons_zero, List.set_cons_succ]
    refine wpAnyL_take (i := 1) (v := ?_) rfl (by kernel_rfl) (by kernel_rfl) (by kernel_rfl) (by kernel_rfl) (by kernel_rfl) (fun _ _ _ h => h) (Or.inl ⟨by kernel_rfl, ?_⟩) s3 ?_
    rotate_left
    · rintro w' ⟨h1, h2, h3, h4⟩; go_simp; (try with_reducible rfl)
    try simp only [Act.put, List.getElem_toArray, List.getElem_cons_succ, List.getElem_cons_zero, List.setIfInBounds_toArray, List.set_cons_zero, List.set_cons_succ]
    refine wpAnyL_take (i := 2) (v := ?_) rfl (by kernel_rfl) (by kernel_rfl) (by kernel_rfl) (by kernel_rfl) (by kernel_rfl) (fun _ _ _ h => h) (Or.inl ⟨by kernel_rfl, ?_⟩) s3 ?_
    rotate_left
    · rintro w' ⟨h1, h2, h3, h4⟩; go_simp; (try with_reducible rfl)
    try simp only [Act.put, List.getElem_toArray, List.getElem_cons_succ, List.getElem_cons_zero, List.setIfInBounds_toArray, List.set_cons_zero, List.set_cons_succ]
    refine wpAnyL_take (i := 3) (v := .agg #[.bool b_x, .slice A_x n_x c_x, .bool b_y, .slice A_y n_y c_y]) rfl (by kernel_rfl) (by kernel_rfl) (by kernel_rfl) (by kernel_rfl) (by kernel_rfl) (fun _ _ _ h => h) (Or.inl ⟨by rfl, by rintro w' ⟨h1, h2, h3, h4⟩; go_simp⟩) s3 ?_
    try simp only [Act.put, List.getElem_toArray, List.getElem_cons_succ, List.getElem_cons_zero, List.setIfInBounds_toArray, List.set_cons_zero, List.set_cons_succ]
    refine wpAnyL_one (i := 4) (by kernel_rfl) rfl (fun K hK => ?_)
    go_simp
    refine (rqmay (D3.z 1 rfl) (D3.z 0 rfl) (by omega) (decide_eq_false (by have := H0.out; omega))).mono ?_; rintro e w4 ⟨rfl, hb4⟩
    have R4 := (D3.below hb4)
    have Yleft4 := Yleft3.below hb4
    have s4 := And.intro (R4.cell 0 0 rfl rfl) (And.intro (R4.cell 0 1 rfl rfl) (And.intro (R4.cell 0 2 rfl rfl) (R4.cell 0 3 rfl rfl)))
    go_wp2_with fail
    refine hK.out _ _ (fun _ => s4) ?_
    clear hK K
    try simp only [Act.put, List.getElem_toArray, List.getElem_cons_succ, List.getElem_cons_zero, List.setIfInBounds_toArray, List.set_cons_zero, List.set_cons_succ]
    refine wpAnyL_take (i := 5) (v := ?_) rfl (by kernel_rfl) (by kernel_rfl) (by kernel_rfl) (by kernel_rfl) (by kernel_rfl) (fun _ _ _ h => h) (Or.inl ⟨by kernel_rfl, ?_⟩) s4 ?_
    rotate_left
    · rintro w' ⟨h1, h2, h3, h4⟩; go_simp; (try with_reducible rfl)
    try simp only [Act.put, List.getElem_toArray, List.getElem_cons_succ, List.getElem_cons_zero, List.setIfInBounds_toArray, List.set_cons_zero, List.set_cons_succ]
    refine wpAnyL_take (i := 6) (v := ?_) rfl (by kernel_rfl) (by kernel_rfl) (by kernel_rfl) (by kernel_rfl) (by kernel_rfl) (fun _ _ _ h => h) (Or.inl ⟨by kernel_rfl, ?_⟩) s4 ?_
    rotate_left
    · rintro w' ⟨h1, h2, h3, h4⟩; go_simp; (try with_reducible rfl)
    try simp only [Act.put, List.getElem_toArray, List.getElem_cons_succ, List.getElem_cons_zero, List.setIfInBounds_toArray, List.set_cons_zero, List.set_cons_succ]
    refine wpAnyL_take (i := 7) (v := ?_) rfl (by kernel_rfl) (by kernel_rfl) (by kernel_rfl) (by kernel_rfl) (by kernel_rfl) (fun _ _ _ h => h) (Or.inl ⟨by kernel_rfl, ?_⟩) s4 ?_
    rotate_left
    · rintro w' ⟨h1, h2, h3, h4⟩; go_simp; (try with_reducible rfl)
    try simp only [Act.put, List.getElem_toArray, List.getElem_cons_succ, List.getElem_cons_zero, List.setIfInBounds_toArray, List.set_cons_zero, List.set_cons_succ]
    refine wpAnyL_take (i := 8) (v := undef) rfl (by kernel_rfl) (by kernel_rfl) (by kernel_rfl) (by kernel_rfl) (by kernel_rfl) (fun _ _ _ h => h) (Or.inr ⟨by kernel_rfl, rfl⟩) s4 ?_
    try simp only [Act.put, List.getElem_toArray, List.getElem_cons_succ, List.getElem_cons_zero, List.setIfInBounds_toArray, List.set_cons_zero, List.set_cons_succ]
    refine wpAnyL_take (i := 10) (v := undef) rfl (by kernel_rfl) (by kernel_rfl) (by kernel_rfl) (by kernel_rfl) (by kernel_rfl) (fun _ _ _ h => h) (Or.inr ⟨by kernel_rfl, rfl⟩) s4 ?_
    try simp only [Act.put, List.getElem_toArray, List.getElem_cons_succ, List.getElem_cons_zero, List.setIfInBounds_toArray, List.set_cons_zero, List.set_cons_succ]
    refine wpAnyL_one (i := 9) (by kernel_rfl) rfl (fun K hK => ?_)
    rw [if_neg (Bool.eq_false_iff.1 (by kernel_rfl))]
    refine hK.out _ _ (fun _ => s4) ?_
    clear hK K
    try simp only [Act.put, List.getElem_toArray, List.getElem_cons_succ, List.getElem_cons_zero, List.setIfInBounds_toArray, List.set_cons_zero, List.set_cons_succ]
    refine wpAnyL_one (i := 11) (by kernel_rfl) rfl (fun K hK => ?_)
    rw [if_neg (Bool.eq_false_iff.1 (by kernel_rfl))]
    refine hK.out _ _ (fun _ => s4) ?_
    clear hK K
    try simp only [Act.put, List.getElem_toArray, List.getElem_cons_succ, List.getElem_cons_zero, List.setIfInBounds_toArray, List.set_cons_zero, List.set_cons_succ]
    refine wpAnyL_take (i := 12) (v := undef) rfl (by kernel_rfl) (by kernel_rfl) (by kernel_rfl) (by kernel_rfl) (by kernel_rfl) (fun _ _ _ h => h) (Or.inr ⟨by kernel_rfl, rfl⟩) s4 ?_
    try simp only [Act.put, List.getElem_toArray, List.getElem_cons_succ, List.getElem_cons_zero, List.setIfInBounds_toArray, List.set_cons_zero, List.set_cons_succ]
    refine wpAnyL_take (i := 13) (v := ?_) rfl (by kernel_rfl) (by kernel_rfl) (by kernel_rfl) (by kernel_rfl) (by kernel_rfl) (fun _ _ _ h => h) (Or.inl ⟨by kernel_rfl, ?_⟩) s4 ?_
    rotate_left
    · rintro w' ⟨h1, h2, h3, h4⟩; go_simp; (try with_reducible rfl)
    try simp only [Act.put, List.getElem_toArray, List.getElem_cons_succ, List.getElem_cons_zero, List.setIfInBounds_toArray, List.set_cons_zero, List.set_cons_succ]
    refine wpAnyL_done (by kernel_rfl) ?_ _
    go_wp2_with fail
    refine (rqzero _).mono ?_; rintro e w5 ⟨b_p, A_p, n_p, c_p, b_q, A_q, n_q, c_q, rfl, z_p, z_q, hb5⟩
    have R5 := (((R4.below hb5).add z_p).add z_q)
    have Yleft5 := (Yleft4.below hb5)
    have zr0 := R5.cell 3 0 rfl rfl
    have zr1 := R5.cell 3 1 rfl rfl
    have zr2 := R5.cell 3 2 rfl rfl
    have zr3 := R5.cell 3 3 rfl rfl
    have zfr0 := R5.frozen 3 0 rfl
    have zfr1 := R5.frozen 3 1 rfl
    have zfr2 := R5.frozen 3 2 rfl
    have zfr3 := R5.frozen 3 3 rfl
    go_wp2_with fail
    have R9_ := R5.st4 3 (.bool b_p) (.slice A_p n_p c_p) (.bool b_q) (.slice A_q n_q c_q) rfl rfl rfl rfl rfl
    refine bodyPost_ret (results_row_tmp2 rfl _ _ (w.heap.size) 26 #[.bool b_p, .slice A_p n_p c_p, .bool b_q, .slice A_q n_q c_q] (0, 0) _ rfl (R9_.b 3 rfl).is Tryz.underlying26 rfl (by kernel_rfl)) rfl ?_
    rw [HOK.out, HN1.out HOK.out, HN2.out HOK.out]
    exact ⟨_, _, _, _, _, _, _, _, none, 0, 0, rfl, Nat.zero_le _, (R9_.z 1 rfl).mono (by omega), (R9_.z 0 rfl).mono (by omega), Ints.nil_ .., R9_.bel⟩
end Go.Proofs.YticjhlbmdjijnaaGreatDoor
