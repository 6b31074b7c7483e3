/- The law RatioRounds, walked. No condition but the reach of a slice. No condition but the reach of a slice. -/
import Derived.Test.YticjhlbmdjijnaaGreatDoorHQAwake
import Derived.Test.YticjhlbmdjijnaaGreatDoorHQFew
import Derived.Test.YticjhlbmdjijnaaGreatDoorHQT
import Derived.Test.YticjhlbmdjijnaaGreatDoorHQU
import Derived.Test.YticjhlbmdjijnaaGreatDoorHQMore
namespace Go.Proofs.YticjhlbmdjijnaaGreatDoor
set_option linter.unusedSimpArgs false
set_option linter.unusedVariables false
open Go.RowKit

set_option maxRecDepth 100000 in
set_option maxHeartbeats 25600000 in
theorem ratioRounds_any (ba : Bool) (Aa : Option Addr) (na ca : Nat) (la : List Nat) (ba' : Bool) (Aa' : Option Addr) (na' ca' : Nat) (la' : List Nat) (x y : Int) (w : World) (hra : Lim w Aa na ca la) (hna : na ≤ maxLen) (hra' : Lim w Aa' na' ca' la') (hna' : na' ≤ maxLen) (hx : -9223372036854775808 ≤ x ∧ x ≤ 9223372036854775807) (hy : -9223372036854775808 ≤ y ∧ y ≤ 9223372036854775807) : Calls Tryz.prog 3 #[.agg #[.bool ba, .slice Aa na ca, .bool ba', .slice Aa' na' ca'], .int .i64 x, .int .i64 y] w fun e w' => e = .returned (.bool true) ∧ Below w.heap.size w w' := by
  by_cases hfa : ¬ (na ≤ 4 ∧ na' ≤ 4)
  · have R0 := ((Env.nil_ w).alloc 26 #[.bool ba, .slice Aa na ca, .bool ba', .slice Aa' na' ca'] (g := w.heap.size) rfl rfl)
    have HF := Lib.hid hfa
    clear hfa
    go_enter Tryz.func3, Tryz.ntmps3
    go_wp2_with fail
    refine (qawake_any _).mono ?_; rintro e w1 ⟨rfl, hb1⟩
    have R1 := (R0.below hb1)
    clear hb1 R0
    have k2a0 := R1.cell 0 0 rfl rfl
    have k2a1 := R1.cell 0 1 rfl rfl
    have k2a2 := R1.cell 0 2 rfl rfl
    have k2a3 := R1.cell 0 3 rfl rfl
    go_wp2_with fail
    clear k2a0 k2a1 k2a2 k2a3
    refine (qfew _ _ _ _ _ _ _ _ _).mono ?_; rintro e w2 ⟨rfl, hb2⟩
    have R2 := (R1.below hb2)
    clear hb2 R1
    rw [decide_eq_false HF.out]
    go_wp2_with fail
    go_ret
    exact ⟨rfl, R2.bel⟩
  have hfa := Lib.hid (Classical.not_not.1 hfa)
  have zan := ZIs.of_lim (b := ba) (k := 4) hra hfa.out.1
  have zad := ZIs.of_lim (b := ba') (k := 4) hra' hfa.out.2
  generalize zv ba (vl la) = xa at zan
  generalize zv ba' (vl la') = ya at zad
  obtain ⟨ra, hra_⟩ : ∃ r, qv xa ya = r := ⟨_, rfl⟩
  have Ha := Lib.hid hra_
  clear hra_ hra hra' hna hna'
  have R0 := ((((Env.nil_ w).add zan).add zad).alloc 26 #[.bool ba, .slice Aa na ca, .bool ba', .slice Aa' na' ca'] (g := w.heap.size) rfl rfl)
  clear zan zad
  obtain ⟨ok, hok⟩ : ∃ ok, decide (y ≠ 0) = ok := ⟨_, rfl⟩
  obtain ⟨v, hv⟩ : ∃ v, Rat.divInt x y = v := ⟨_, rfl⟩
  have Hok := Lib.hid hok
  clear hok
  have Hv := Lib.hid hv
  clear hv
  have HX := Lib.hid hx
  have HY := Lib.hid hy
  clear hx hy
  go_enter Tryz.func3, Tryz.ntmps3
  go_wp2_with fail
  refine (qawake_any _).mono ?_; rintro e w1 ⟨rfl, hb1⟩
  have R1 := (R0.below hb1)
  clear hb1 R0
  have k2a0 := R1.cell 0 0 rfl rfl
  have k2a1 := R1.cell 0 1 rfl rfl
  have k2a2 := R1.cell 0 2 rfl rfl
  have k2a3 := R1.cell 0 3 rfl rfl
  go_wp2_with fail
  clear k2a0 k2a1 k2a2 k2a3
  refine (qfew _ _ _ _ _ _ _ _ _).mono ?_; rintro e w2 ⟨rfl, hb2⟩
  have R2 := (R1.below hb2)
  clear hb2 R1
  rw [decide_eq_true hfa.out]
  go_wp2_with fail
  refine (qof x y HX.out HY.out _ Hv.out Hok.out).mono ?_; rintro e w3 ⟨b_xn, A_xn, n_xn, b_xd, A_xd, n_xd, rfl, z_xn, z_xd, hb3⟩
  have R3 := ((((R2.below hb3).add z_xn).add z_xd).alloc 26 #[.bool b_xn, .slice A_xn n_xn n_xn, .bool b_xd, .slice A_xd n_xd n_xd] (g := w3.heap.size) rfl rfl)
  clear z_xn z_xd hb3 R2
  go_wp2_with fail
  refine (rqof x y HX.out HY.out _ Hv.out Hok.out).mono ?_; rintro e w4 ⟨b_yn, A_yn, n_yn, c_yn, b_yd, A_yd, n_yd, c_yd, rfl, z_yn, z_yd, hb4⟩
  have R4 := ((((R3.below hb4).add z_yn).add z_yd).alloc 26 #[.bool b_yn, .slice A_yn n_yn c_yn, .bool b_yd, .slice A_yd n_yd c_yd] (g := w4.heap.size) rfl rfl)
  clear z_yn z_yd hb4 R3
  have k5a0 := R4.cell 2 0 rfl rfl
  have k5a1 := R4.cell 2 1 rfl rfl
  have k5a2 := R4.cell 2 2 rfl rfl
  have k5a3 := R4.cell 2 3 rfl rfl
  go_wp2_with fail
  clear k5a0 k5a1 k5a2 k5a3
  refine (qfrac_ (k := 4) (R4.z 5 rfl) (R4.z 4 rfl) (by decide) (by decide) (by decide) (by decide) Ha.out).mono ?_; rintro e w5 ⟨b_fn, A_fn, n_fn, b_fd, A_fd, n_fd, rfl, z_fn, z_fd, hb5⟩
  have R5 := ((((R4.below hb5).add z_fn).add z_fd).alloc 26 #[.bool b_fn, .slice A_fn n_fn n_fn, .bool b_fd, .slice A_fd n_fd n_fd] (g := w5.heap.size) rfl rfl)
  clear z_fn z_fd hb5 R4
  have eo : (ok == ok) = true := by simp
  have en : (ok != ok) = false := by simp
  go_wp2_with fail
  have D6 := R5.drew
  have s6 := And.intro (D6.cell 3 0 rfl rfl) (And.intro (D6.cell 3 1 rfl rfl) (And.intro (D6.cell 3 2 rfl rfl) (And.intro (D6.cell 3 3 rfl rfl) (And.intro (D6.cell 0 0 rfl rfl) (And.intro (D6.cell 0 1 rfl rfl) (And.intro (D6.cell 0 2 rfl rfl) (And.intro (D6.cell 0 3 rfl rfl) (And.intro (D6.cell 2 0 rfl rfl) (And.intro (D6.cell 2 1 rfl rfl) (And.intro (D6.cell 2 2 rfl rfl) (And.intro (D6.cell 2 3 rfl rfl) (And.intro (D6.cell 1 0 rfl rfl) (And.intro (D6.cell 1 1 rfl rfl) (And.intro (D6.cell 1 2 rfl rfl) (D6.cell 1 3 rfl rfl)))))))))))))))
  refine wp_region_late [] (fun w' => w'.cell? ⟨w.heap.size, 0, none⟩ = some (.bool ba) ∧ w'.cell? ⟨w.heap.size, 1, none⟩ = some (.slice Aa na ca) ∧ w'.cell? ⟨w.heap.size, 2, none⟩ = some (.bool ba') ∧ w'.cell? ⟨w.heap.size, 3, none⟩ = some (.slice Aa' na' ca') ∧ w'.cell? ⟨w5.heap.size, 0, none⟩ = some (.bool b_fn) ∧ w'.cell? ⟨w5.heap.size, 1, none⟩ = some (.slice A_fn n_fn n_fn) ∧ w'.cell? ⟨w5.heap.size, 2, none⟩ = some (.bool b_fd) ∧ w'.cell? ⟨w5.heap.size, 3, none⟩ = some (.slice A_fd n_fd n_fd) ∧ w'.cell? ⟨w3.heap.size, 0, none⟩ = some (.bool b_xn) ∧ w'.cell? ⟨w3.heap.size, 1, none⟩ = some (.slice A_xn n_xn n_xn) ∧ w'.cell? ⟨w3.heap.size, 2, none⟩ = some (.bool b_xd) ∧ w'.cell? ⟨w3.heap.size, 3, none⟩ = some (.slice A_xd n_xd n_xd) ∧ w'.cell? ⟨w4.heap.size, 0, none⟩ = some (.bool b_yn) ∧ w'.cell? ⟨w4.heap.size, 1, none⟩ = some (.slice A_yn n_yn c_yn) ∧ w'.cell? ⟨w4.heap.size, 2, none⟩ = some (.bool b_yd) ∧ w'.cell? ⟨w4.heap.size, 3, none⟩ = some (.slice A_yd n_yd c_yd)) (by kernel_rfl) ?_
  refine wpAnyL_take (i := 0) (v := ?_) rfl (by kernel_rfl) (by kernel_rfl) (by kernel_rfl) (by kernel_rfl) (by kernel_rfl) (fun _ _ _ h => h) (Or.inl ⟨by kernel_rfl, ?_⟩) s6 ?_
  rotate_left
  · rintro w' ⟨h1, h2, h3, h4, h5, h6, h7, h8, h9, h10, h11, h12, h13, h14, h15, h16⟩; go_simp; (try with_reducible rfl)
  try simp only [Act.put, List.getElem_toArray, List.getElem_cons_succ, List.getElem_cons_zero, List.setIfInBounds_toArray, List.set_cons_zero, List.set_cons_succ]
  refine wpAnyL_take (i := 2) (v := ?_) rfl (by kernel_rfl) (by kernel_rfl) (by kernel_rfl) (by kernel_rfl) (by kernel_rfl) (fun _ _ _ h => h) (Or.inl ⟨by kernel_rfl, ?_⟩) s6 ?_
  rotate_left
  · rintro w' ⟨h1, h2, h3, h4, h5, h6, h7, h8, h9, h10, h11, h12, h13, h14, h15, h16⟩; go_simp; (try with_reducible rfl)
  try simp only [Act.put, List.getElem_toArray, List.getElem_cons_succ, List.getElem_cons_zero, List.setIfInBounds_toArray, List.set_cons_zero, List.set_cons_succ]
  refine wpAnyL_one (i := 1) (by kernel_rfl) rfl (fun K hK => ?_)
  go_simp
  refine (qfloor (k := 4) (D6.z 7 rfl) (D6.z 6 rfl) (by decide) (by decide) (by decide) (by decide) Ha.out).mono ?_; rintro e w7 ⟨b_fl, A_fl, n_fl, rfl, z_fl, hb7⟩
  have R7 := ((D6.below hb7).add z_fl)
  have s7 := And.intro (R7.cell 3 0 rfl rfl) (And.intro (R7.cell 3 1 rfl rfl) (And.intro (R7.cell 3 2 rfl rfl) (And.intro (R7.cell 3 3 rfl rfl) (And.intro (R7.cell 0 0 rfl rfl) (And.intro (R7.cell 0 1 rfl rfl) (And.intro (R7.cell 0 2 rfl rfl) (And.intro (R7.cell 0 3 rfl rfl) (And.intro (R7.cell 2 0 rfl rfl) (And.intro (R7.cell 2 1 rfl rfl) (And.intro (R7.cell 2 2 rfl rfl) (And.intro (R7.cell 2 3 rfl rfl) (And.intro (R7.cell 1 0 rfl rfl) (And.intro (R7.cell 1 1 rfl rfl) (And.intro (R7.cell 1 2 rfl rfl) (R7.cell 1 3 rfl rfl)))))))))))))))
  clear z_fl hb7 D6 s6
  go_wp2_with fail
  refine hK.out _ _ (fun _ => s7) ?_
  clear hK K
  try simp only [Act.put, List.getElem_toArray, List.getElem_cons_succ, List.getElem_cons_zero, List.setIfInBounds_toArray, List.set_cons_zero, List.set_cons_succ]
  refine wpAnyL_one (i := 3) (by kernel_rfl) rfl (fun K hK => ?_)
  go_simp
  refine (rqfloor (k := 4) (R7.z 8 rfl) (R7.z 7 rfl) (by decide) (by decide) (by decide) (by decide) Ha.out).mono ?_; rintro e w8 ⟨b_gl, A_gl, n_gl, c_gl, rfl, z_gl, hb8⟩
  have R8 := ((R7.below hb8).add z_gl)
  have s8 := And.intro (R8.cell 3 0 rfl rfl) (And.intro (R8.cell 3 1 rfl rfl) (And.intro (R8.cell 3 2 rfl rfl) (And.intro (R8.cell 3 3 rfl rfl) (And.intro (R8.cell 0 0 rfl rfl) (And.intro (R8.cell 0 1 rfl rfl) (And.intro (R8.cell 0 2 rfl rfl) (And.intro (R8.cell 0 3 rfl rfl) (And.intro (R8.cell 2 0 rfl rfl) (And.intro (R8.cell 2 1 rfl rfl) (And.intro (R8.cell 2 2 rfl rfl) (And.intro (R8.cell 2 3 rfl rfl) (And.intro (R8.cell 1 0 rfl rfl) (And.intro (R8.cell 1 1 rfl rfl) (And.intro (R8.cell 1 2 rfl rfl) (R8.cell 1 3 rfl rfl)))))))))))))))
  clear z_gl hb8 R7 s7
  go_wp2_with fail
  refine hK.out _ _ (fun _ => s8) ?_
  clear hK K
  try simp only [Act.put, List.getElem_toArray, List.getElem_cons_succ, List.getElem_cons_zero, List.setIfInBounds_toArray, List.set_cons_zero, List.set_cons_succ]
  refine wpAnyL_one (i := 4) (by kernel_rfl) rfl (fun K hK => ?_)
  go_simp
  refine (zsame_v (R8.z 1 rfl) (R8.z 0 rfl) (by decide) (by decide) (decide_eq_true rfl)).mono ?_; rintro e w9 ⟨rfl, hb9⟩
  have R9 := (R8.below hb9)
  have s9 := And.intro (R9.cell 3 0 rfl rfl) (And.intro (R9.cell 3 1 rfl rfl) (And.intro (R9.cell 3 2 rfl rfl) (And.intro (R9.cell 3 3 rfl rfl) (And.intro (R9.cell 0 0 rfl rfl) (And.intro (R9.cell 0 1 rfl rfl) (And.intro (R9.cell 0 2 rfl rfl) (And.intro (R9.cell 0 3 rfl rfl) (And.intro (R9.cell 2 0 rfl rfl) (And.intro (R9.cell 2 1 rfl rfl) (And.intro (R9.cell 2 2 rfl rfl) (And.intro (R9.cell 2 3 rfl rfl) (And.intro (R9.cell 1 0 rfl rfl) (And.intro (R9.cell 1 1 rfl rfl) (And.intro (R9.cell 1 2 rfl rfl) (R9.cell 1 3 rfl rfl)))))))))))))))
  clear hb9 R8 s8
  go_wp2_with fail
  refine hK.out _ _ (fun _ => s9) ?_
  clear hK K
  try simp only [Act.put, List.getElem_toArray, List.getElem_cons_succ, List.getElem_cons_zero, List.setIfInBounds_toArray, List.set_cons_zero, List.set_cons_succ]
  refine wpAnyL_take (i := 5) (v := ?_) rfl (by kernel_rfl) (by kernel_rfl) (by kernel_rfl) (by kernel_rfl) (by kernel_rfl) (fun _ _ _ h => h) (Or.inl ⟨by kernel_rfl, ?_⟩) s9 ?_
  rotate_left
  · rintro w' ⟨h1, h2, h3, h4, h5, h6, h7, h8, h9, h10, h11, h12, h13, h14, h15, h16⟩; go_simp; (try with_reducible rfl)
  try simp only [Act.put, List.getElem_toArray, List.getElem_cons_succ, List.getElem_cons_zero, List.setIfInBounds_toArray, List.set_cons_zero, List.set_cons_succ]
  refine wpAnyL_take (i := 6) (v := ?_) rfl (by kernel_rfl) (by kernel_rfl) (by kernel_rfl) (by kernel_rfl) (by kernel_rfl) (fun _ _ _ h => h) (Or.inl ⟨by kernel_rfl, ?_⟩) s9 ?_
  rotate_left
  · rintro w' ⟨h1, h2, h3, h4, h5, h6, h7, h8, h9, h10, h11, h12, h13, h14, h15, h16⟩; go_simp; (try with_reducible rfl)
  try simp only [Act.put, List.getElem_toArray, List.getElem_cons_succ, List.getElem_cons_zero, List.setIfInBounds_toArray, List.set_cons_zero, List.set_cons_succ]
  refine wpAnyL_take (i := 7) (v := ?_) rfl (by kernel_rfl) (by kernel_rfl) (by kernel_rfl) (by kernel_rfl) (by kernel_rfl) (fun _ _ _ h => h) (Or.inl ⟨by kernel_rfl, ?_⟩) s9 ?_
  rotate_left
  · rintro w' ⟨h1, h2, h3, h4, h5, h6, h7, h8, h9, h10, h11, h12, h13, h14, h15, h16⟩; go_simp; (try with_reducible rfl)
  try simp only [Act.put, List.getElem_toArray, List.getElem_cons_succ, List.getElem_cons_zero, List.setIfInBounds_toArray, List.set_cons_zero, List.set_cons_succ]
  refine wpAnyL_take (i := 9) (v := ?_) rfl (by kernel_rfl) (by kernel_rfl) (by kernel_rfl) (by kernel_rfl) (by kernel_rfl) (fun _ _ _ h => h) (Or.inl ⟨by kernel_rfl, ?_⟩) s9 ?_
  rotate_left
  · rintro w' ⟨h1, h2, h3, h4, h5, h6, h7, h8, h9, h10, h11, h12, h13, h14, h15, h16⟩; go_simp; (try with_reducible rfl)
  try simp only [Act.put, List.getElem_toArray, List.getElem_cons_succ, List.getElem_cons_zero, List.setIfInBounds_toArray, List.set_cons_zero, List.set_cons_succ]
  refine wpAnyL_one (i := 8) (by kernel_rfl) rfl (fun K hK => ?_)
  go_simp
  refine (qceil (k := 4) (R9.z 9 rfl) (R9.z 8 rfl) (by decide) (by decide) (by decide) (by decide) Ha.out).mono ?_; rintro e w10 ⟨b_ce, A_ce, n_ce, rfl, z_ce, hb10⟩
  have R10 := ((R9.below hb10).add z_ce)
  have s10 := And.intro (R10.cell 3 0 rfl rfl) (And.intro (R10.cell 3 1 rfl rfl) (And.intro (R10.cell 3 2 rfl rfl) (And.intro (R10.cell 3 3 rfl rfl) (And.intro (R10.cell 0 0 rfl rfl) (And.intro (R10.cell 0 1 rfl rfl) (And.intro (R10.cell 0 2 rfl rfl) (And.intro (R10.cell 0 3 rfl rfl) (And.intro (R10.cell 2 0 rfl rfl) (And.intro (R10.cell 2 1 rfl rfl) (And.intro (R10.cell 2 2 rfl rfl) (And.intro (R10.cell 2 3 rfl rfl) (And.intro (R10.cell 1 0 rfl rfl) (And.intro (R10.cell 1 1 rfl rfl) (And.intro (R10.cell 1 2 rfl rfl) (R10.cell 1 3 rfl rfl)))))))))))))))
  clear z_ce hb10 R9 s9
  go_wp2_with fail
  refine hK.out _ _ (fun _ => s10) ?_
  clear hK K
  try simp only [Act.put, List.getElem_toArray, List.getElem_cons_succ, List.getElem_cons_zero, List.setIfInBounds_toArray, List.set_cons_zero, List.set_cons_succ]
  refine wpAnyL_one (i := 10) (by kernel_rfl) rfl (fun K hK => ?_)
  go_simp
  refine (rqceil (k := 4) (R10.z 10 rfl) (R10.z 9 rfl) (by decide) (by decide) (by decide) (by decide) Ha.out).mono ?_; rintro e w11 ⟨b_de, A_de, n_de, c_de, rfl, z_de, hb11⟩
  have R11 := ((R10.below hb11).add z_de)
  have s11 := And.intro (R11.cell 3 0 rfl rfl) (And.intro (R11.cell 3 1 rfl rfl) (And.intro (R11.cell 3 2 rfl rfl) (And.intro (R11.cell 3 3 rfl rfl) (And.intro (R11.cell 0 0 rfl rfl) (And.intro (R11.cell 0 1 rfl rfl) (And.intro (R11.cell 0 2 rfl rfl) (And.intro (R11.cell 0 3 rfl rfl) (And.intro (R11.cell 2 0 rfl rfl) (And.intro (R11.cell 2 1 rfl rfl) (And.intro (R11.cell 2 2 rfl rfl) (And.intro (R11.cell 2 3 rfl rfl) (And.intro (R11.cell 1 0 rfl rfl) (And.intro (R11.cell 1 1 rfl rfl) (And.intro (R11.cell 1 2 rfl rfl) (R11.cell 1 3 rfl rfl)))))))))))))))
  clear z_de hb11 R10 s10
  go_wp2_with fail
  refine hK.out _ _ (fun _ => s11) ?_
  clear hK K
  try simp only [Act.put, List.getElem_toArray, List.getElem_cons_succ, List.getElem_cons_zero, List.setIfInBounds_toArray, List.set_cons_zero, List.set_cons_succ]
  refine wpAnyL_one (i := 11) (by kernel_rfl) rfl (fun K hK => ?_)
  go_simp
  refine (zsame_v (R11.z 1 rfl) (R11.z 0 rfl) (by decide) (by decide) (decide_eq_true rfl)).mono ?_; rintro e w12 ⟨rfl, hb12⟩
  have R12 := (R11.below hb12)
  have s12 := And.intro (R12.cell 3 0 rfl rfl) (And.intro (R12.cell 3 1 rfl rfl) (And.intro (R12.cell 3 2 rfl rfl) (And.intro (R12.cell 3 3 rfl rfl) (And.intro (R12.cell 0 0 rfl rfl) (And.intro (R12.cell 0 1 rfl rfl) (And.intro (R12.cell 0 2 rfl rfl) (And.intro (R12.cell 0 3 rfl rfl) (And.intro (R12.cell 2 0 rfl rfl) (And.intro (R12.cell 2 1 rfl rfl) (And.intro (R12.cell 2 2 rfl rfl) (And.intro (R12.cell 2 3 rfl rfl) (And.intro (R12.cell 1 0 rfl rfl) (And.intro (R12.cell 1 1 rfl rfl) (And.intro (R12.cell 1 2 rfl rfl) (R12.cell 1 3 rfl rfl)))))))))))))))
  clear hb12 R11 s11
  go_wp2_with fail
  refine hK.out _ _ (fun _ => s12) ?_
  clear hK K
  try simp only [Act.put, List.getElem_toArray, List.getElem_cons_succ, List.getElem_cons_zero, List.setIfInBounds_toArray, List.set_cons_zero, List.set_cons_succ]
  refine wpAnyL_take (i := 12) (v := ?_) rfl (by kernel_rfl) (by kernel_rfl) (by kernel_rfl) (by kernel_rfl) (by kernel_rfl) (fun _ _ _ h => h) (Or.inl ⟨by kernel_rfl, ?_⟩) s12 ?_
  rotate_left
  · rintro w' ⟨h1, h2, h3, h4, h5, h6, h7, h8, h9, h10, h11, h12, h13, h14, h15, h16⟩; go_simp; (try with_reducible rfl)
  try simp only [Act.put, List.getElem_toArray, List.getElem_cons_succ, List.getElem_cons_zero, List.setIfInBounds_toArray, List.set_cons_zero, List.set_cons_succ]
  refine wpAnyL_take (i := 13) (v := ?_) rfl (by kernel_rfl) (by kernel_rfl) (by kernel_rfl) (by kernel_rfl) (by kernel_rfl) (fun _ _ _ h => h) (Or.inl ⟨by kernel_rfl, ?_⟩) s12 ?_
  rotate_left
  · rintro w' ⟨h1, h2, h3, h4, h5, h6, h7, h8, h9, h10, h11, h12, h13, h14, h15, h16⟩; go_simp; (try with_reducible rfl)
  try simp only [Act.put, List.getElem_toArray, List.getElem_cons_succ, List.getElem_cons_zero, List.setIfInBounds_toArray, List.set_cons_zero, List.set_cons_succ]
  refine wpAnyL_take (i := 14) (v := ?_) rfl (by kernel_rfl) (by kernel_rfl) (by kernel_rfl) (by kernel_rfl) (by kernel_rfl) (fun _ _ _ h => h) (Or.inl ⟨by kernel_rfl, ?_⟩) s12 ?_
  rotate_left
  · rintro w' ⟨h1, h2, h3, h4, h5, h6, h7, h8, h9, h10, h11, h12, h13, h14, h15, h16⟩; go_simp; (try with_reducible rfl)
  try simp only [Act.put, List.getElem_toArray, List.getElem_cons_succ, List.getElem_cons_zero, List.setIfInBounds_toArray, List.set_cons_zero, List.set_cons_succ]
  refine wpAnyL_take (i := 15) (v := ?_) rfl (by kernel_rfl) (by kernel_rfl) (by kernel_rfl) (by kernel_rfl) (by kernel_rfl) (fun _ _ _ h => h) (Or.inl ⟨by kernel_rfl, ?_⟩) s12 ?_
  rotate_left
  · rintro w' ⟨h1, h2, h3, h4, h5, h6, h7, h8, h9, h10, h11, h12, h13, h14, h15, h16⟩; go_simp; (try with_reducible rfl)
  try simp only [Act.put, List.getElem_toArray, List.getElem_cons_succ, List.getElem_cons_zero, List.setIfInBounds_toArray, List.set_cons_zero, List.set_cons_succ]
  refine wpAnyL_take (i := 16) (v := ?_) rfl (by kernel_rfl) (by kernel_rfl) (by kernel_rfl) (by kernel_rfl) (by kernel_rfl) (fun _ _ _ h => h) (Or.inl ⟨by kernel_rfl, ?_⟩) s12 ?_
  rotate_left
  · rintro w' ⟨h1, h2, h3, h4, h5, h6, h7, h8, h9, h10, h11, h12, h13, h14, h15, h16⟩; go_simp; (try with_reducible rfl)
  try simp only [Act.put, List.getElem_toArray, List.getElem_cons_succ, List.getElem_cons_zero, List.setIfInBounds_toArray, List.set_cons_zero, List.set_cons_succ]
  refine wpAnyL_one (i := 17) (by kernel_rfl) rfl (fun K hK => ?_)
  go_simp
  refine (rqfrac (k := 4) (R12.z 11 rfl) (R12.z 10 rfl) (by decide) (by decide) (by decide) (by decide) Ha.out).mono ?_; rintro e w13 ⟨b_en, A_en, n_en, c_en, b_ed, A_ed, n_ed, c_ed, rfl, z_en, z_ed, hb13⟩
  have R13 := (((R12.below hb13).add z_en).add z_ed)
  have s13 := And.intro (R13.cell 3 0 rfl rfl) (And.intro (R13.cell 3 1 rfl rfl) (And.intro (R13.cell 3 2 rfl rfl) (And.intro (R13.cell 3 3 rfl rfl) (And.intro (R13.cell 0 0 rfl rfl) (And.intro (R13.cell 0 1 rfl rfl) (And.intro (R13.cell 0 2 rfl rfl) (And.intro (R13.cell 0 3 rfl rfl) (And.intro (R13.cell 2 0 rfl rfl) (And.intro (R13.cell 2 1 rfl rfl) (And.intro (R13.cell 2 2 rfl rfl) (And.intro (R13.cell 2 3 rfl rfl) (And.intro (R13.cell 1 0 rfl rfl) (And.intro (R13.cell 1 1 rfl rfl) (And.intro (R13.cell 1 2 rfl rfl) (R13.cell 1 3 rfl rfl)))))))))))))))
  clear z_en z_ed hb13 R12 s12
  go_wp2_with fail
  refine hK.out _ _ (fun _ => s13) ?_
  clear hK K
  try simp only [Act.put, List.getElem_toArray, List.getElem_cons_succ, List.getElem_cons_zero, List.setIfInBounds_toArray, List.set_cons_zero, List.set_cons_succ]
  refine wpAnyL_one (i := 18) (by kernel_rfl) rfl (fun K hK => ?_)
  go_simp
  refine (rqsame (R13.z 7 rfl) (R13.z 6 rfl) (R13.z 1 rfl) (R13.z 0 rfl) (by decide) (by decide) (by decide) (by decide) (qsame_eq rfl)).mono ?_; rintro e w14 ⟨rfl, hb14⟩
  have R14 := (R13.below hb14)
  have s14 := And.intro (R14.cell 3 0 rfl rfl) (And.intro (R14.cell 3 1 rfl rfl) (And.intro (R14.cell 3 2 rfl rfl) (And.intro (R14.cell 3 3 rfl rfl) (And.intro (R14.cell 0 0 rfl rfl) (And.intro (R14.cell 0 1 rfl rfl) (And.intro (R14.cell 0 2 rfl rfl) (And.intro (R14.cell 0 3 rfl rfl) (And.intro (R14.cell 2 0 rfl rfl) (And.intro (R14.cell 2 1 rfl rfl) (And.intro (R14.cell 2 2 rfl rfl) (And.intro (R14.cell 2 3 rfl rfl) (And.intro (R14.cell 1 0 rfl rfl) (And.intro (R14.cell 1 1 rfl rfl) (And.intro (R14.cell 1 2 rfl rfl) (R14.cell 1 3 rfl rfl)))))))))))))))
  clear hb14 R13 s13
  go_wp2_with fail
  refine hK.out _ _ (fun _ => s14) ?_
  clear hK K
  try simp only [Act.put, List.getElem_toArray, List.getElem_cons_succ, List.getElem_cons_zero, List.setIfInBounds_toArray, List.set_cons_zero, List.set_cons_succ]
  refine wpAnyL_take (i := 19) (v := ?_) rfl (by kernel_rfl) (by kernel_rfl) (by kernel_rfl) (by kernel_rfl) (by kernel_rfl) (fun _ _ _ h => h) (Or.inl ⟨by kernel_rfl, ?_⟩) s14 ?_
  rotate_left
  · rintro w' ⟨h1, h2, h3, h4, h5, h6, h7, h8, h9, h10, h11, h12, h13, h14, h15, h16⟩; go_simp; (try with_reducible rfl)
  try simp only [Act.put, List.getElem_toArray, List.getElem_cons_succ, List.getElem_cons_zero, List.setIfInBounds_toArray, List.set_cons_zero, List.set_cons_succ]
  refine wpAnyL_take (i := 20) (v := ?_) rfl (by kernel_rfl) (by kernel_rfl) (by kernel_rfl) (by kernel_rfl) (by kernel_rfl) (fun _ _ _ h => h) (Or.inl ⟨by kernel_rfl, ?_⟩) s14 ?_
  rotate_left
  · rintro w' ⟨h1, h2, h3, h4, h5, h6, h7, h8, h9, h10, h11, h12, h13, h14, h15, h16⟩; go_simp; (try with_reducible rfl)
  try simp only [Act.put, List.getElem_toArray, List.getElem_cons_succ, List.getElem_cons_zero, List.setIfInBounds_toArray, List.set_cons_zero, List.set_cons_succ]
  refine wpAnyL_take (i := 21) (v := ?_) rfl (by kernel_rfl) (by kernel_rfl) (by kernel_rfl) (by kernel_rfl) (by kernel_rfl) (fun _ _ _ h => h) (Or.inl ⟨by kernel_rfl, ?_⟩) s14 ?_
  rotate_left
  · rintro w' ⟨h1, h2, h3, h4, h5, h6, h7, h8, h9, h10, h11, h12, h13, h14, h15, h16⟩; go_simp; (try with_reducible rfl)
  try simp only [Act.put, List.getElem_toArray, List.getElem_cons_succ, List.getElem_cons_zero, List.setIfInBounds_toArray, List.set_cons_zero, List.set_cons_succ]
  refine wpAnyL_take (i := 22) (v := ?_) rfl (by kernel_rfl) (by kernel_rfl) (by kernel_rfl) (by kernel_rfl) (by kernel_rfl) (fun _ _ _ h => h) (Or.inl ⟨by kernel_rfl, ?_⟩) s14 ?_
  rotate_left
  · rintro w' ⟨h1, h2, h3, h4, h5, h6, h7, h8, h9, h10, h11, h12, h13, h14, h15, h16⟩; go_simp; (try with_reducible rfl)
  try simp only [Act.put, List.getElem_toArray, List.getElem_cons_succ, List.getElem_cons_zero, List.setIfInBounds_toArray, List.set_cons_zero, List.set_cons_succ]
  refine wpAnyL_take (i := 23) (v := ?_) rfl (by kernel_rfl) (by kernel_rfl) (by kernel_rfl) (by kernel_rfl) (by kernel_rfl) (fun _ _ _ h => h) (Or.inl ⟨by kernel_rfl, ?_⟩) s14 ?_
  rotate_left
  · rintro w' ⟨h1, h2, h3, h4, h5, h6, h7, h8, h9, h10, h11, h12, h13, h14, h15, h16⟩; go_simp; (try with_reducible rfl)
  try simp only [Act.put, List.getElem_toArray, List.getElem_cons_succ, List.getElem_cons_zero, List.setIfInBounds_toArray, List.set_cons_zero, List.set_cons_succ]
  refine wpAnyL_one (i := 24) (by kernel_rfl) rfl (fun K hK => ?_)
  go_simp
  refine (rqsame (R14.z 11 rfl) (R14.z 10 rfl) (R14.z 9 rfl) (R14.z 8 rfl) (by decide) (by decide) (by decide) (by decide) (qsame_eq rfl)).mono ?_; rintro e w15 ⟨rfl, hb15⟩
  have R15 := (R14.below hb15)
  have s15 := And.intro (R15.cell 3 0 rfl rfl) (And.intro (R15.cell 3 1 rfl rfl) (And.intro (R15.cell 3 2 rfl rfl) (And.intro (R15.cell 3 3 rfl rfl) (And.intro (R15.cell 0 0 rfl rfl) (And.intro (R15.cell 0 1 rfl rfl) (And.intro (R15.cell 0 2 rfl rfl) (And.intro (R15.cell 0 3 rfl rfl) (And.intro (R15.cell 2 0 rfl rfl) (And.intro (R15.cell 2 1 rfl rfl) (And.intro (R15.cell 2 2 rfl rfl) (And.intro (R15.cell 2 3 rfl rfl) (And.intro (R15.cell 1 0 rfl rfl) (And.intro (R15.cell 1 1 rfl rfl) (And.intro (R15.cell 1 2 rfl rfl) (R15.cell 1 3 rfl rfl)))))))))))))))
  clear hb15 R14 s14
  go_wp2_with fail
  refine hK.out _ _ (fun _ => s15) ?_
  clear hK K
  try simp only [Act.put, List.getElem_toArray, List.getElem_cons_succ, List.getElem_cons_zero, List.setIfInBounds_toArray, List.set_cons_zero, List.set_cons_succ]
  refine wpAnyL_take (i := 25) (v := ?_) rfl (by kernel_rfl) (by kernel_rfl) (by kernel_rfl) (by kernel_rfl) (by kernel_rfl) (fun _ _ _ h => h) (Or.inl ⟨by kernel_rfl, ?_⟩) s15 ?_
  rotate_left
  · rintro w' ⟨h1, h2, h3, h4, h5, h6, h7, h8, h9, h10, h11, h12, h13, h14, h15, h16⟩; go_simp; (try with_reducible rfl)
  try simp only [Act.put, List.getElem_toArray, List.getElem_cons_succ, List.getElem_cons_zero, List.setIfInBounds_toArray, List.set_cons_zero, List.set_cons_succ]
  refine wpAnyL_take (i := 26) (v := ?_) rfl (by kernel_rfl) (by kernel_rfl) (by kernel_rfl) (by kernel_rfl) (by kernel_rfl) (fun _ _ _ h => h) (Or.inl ⟨by kernel_rfl, ?_⟩) s15 ?_
  rotate_left
  · rintro w' ⟨h1, h2, h3, h4, h5, h6, h7, h8, h9, h10, h11, h12, h13, h14, h15, h16⟩; go_simp; (try with_reducible rfl)
  try simp only [Act.put, List.getElem_toArray, List.getElem_cons_succ, List.getElem_cons_zero, List.setIfInBounds_toArray, List.set_cons_zero, List.set_cons_succ]
  refine wpAnyL_take (i := 27) (v := ?_) rfl (by kernel_rfl) (by kernel_rfl) (by kernel_rfl) (by kernel_rfl) (by kernel_rfl) (fun _ _ _ h => h) (Or.inl ⟨by kernel_rfl, ?_⟩) s15 ?_
  rotate_left
  · rintro w' ⟨h1, h2, h3, h4, h5, h6, h7, h8, h9, h10, h11, h12, h13, h14, h15, h16⟩; go_simp; (try with_reducible rfl)
  try simp only [Act.put, List.getElem_toArray, List.getElem_cons_succ, List.getElem_cons_zero, List.setIfInBounds_toArray, List.set_cons_zero, List.set_cons_succ]
  refine wpAnyL_take (i := 28) (v := ?_) rfl (by kernel_rfl) (by kernel_rfl) (by kernel_rfl) (by kernel_rfl) (by kernel_rfl) (fun _ _ _ h => h) (Or.inl ⟨by kernel_rfl, ?_⟩) s15 ?_
  rotate_left
  · rintro w' ⟨h1, h2, h3, h4, h5, h6, h7, h8, h9, h10, h11, h12, h13, h14, h15, h16⟩; go_simp; (try with_reducible rfl)
  try simp only [Act.put, List.getElem_toArray, List.getElem_cons_succ, List.getElem_cons_zero, List.setIfInBounds_toArray, List.set_cons_zero, List.set_cons_succ]
  refine wpAnyL_take (i := 29) (v := ?_) rfl (by kernel_rfl) (by kernel_rfl) (by kernel_rfl) (by kernel_rfl) (by kernel_rfl) (fun _ _ _ h => h) (Or.inl ⟨by kernel_rfl, ?_⟩) s15 ?_
  rotate_left
  · rintro w' ⟨h1, h2, h3, h4, h5, h6, h7, h8, h9, h10, h11, h12, h13, h14, h15, h16⟩; go_simp; (try with_reducible rfl)
  try simp only [Act.put, List.getElem_toArray, List.getElem_cons_succ, List.getElem_cons_zero, List.setIfInBounds_toArray, List.set_cons_zero, List.set_cons_succ]
  refine wpAnyL_take (i := 30) (v := ?_) rfl (by kernel_rfl) (by kernel_rfl) (by kernel_rfl) (by kernel_rfl) (by kernel_rfl) (fun _ _ _ h => h) (Or.inl ⟨by kernel_rfl, ?_⟩) s15 ?_
  rotate_left
  · rintro w' ⟨h1, h2, h3, h4, h5, h6, h7, h8, h9, h10, h11, h12, h13, h14, h15, h16⟩; go_simp; (try with_reducible rfl)
  try simp only [Act.put, List.getElem_toArray, List.getElem_cons_succ, List.getElem_cons_zero, List.setIfInBounds_toArray, List.set_cons_zero, List.set_cons_succ]
  refine wpAnyL_take (i := 31) (v := ?_) rfl (by kernel_rfl) (by kernel_rfl) (by kernel_rfl) (by kernel_rfl) (by kernel_rfl) (fun _ _ _ h => h) (Or.inl ⟨by kernel_rfl, ?_⟩) s15 ?_
  rotate_left
  · rintro w' ⟨h1, h2, h3, h4, h5, h6, h7, h8, h9, h10, h11, h12, h13, h14, h15, h16⟩; go_simp; (try with_reducible rfl)
  try simp only [Act.put, List.getElem_toArray, List.getElem_cons_succ, List.getElem_cons_zero, List.setIfInBounds_toArray, List.set_cons_zero, List.set_cons_succ]
  refine wpAnyL_done (by kernel_rfl) ?_ _
  go_wp2_with fail
  go_wp2_with fail
  refine (qof 1 1 ⟨by decide, by decide⟩ ⟨by decide, by decide⟩ _ qone_of (by decide : decide ((1 : Int) ≠ 0) = true)).mono ?_; rintro e w16 ⟨b_onen, A_onen, n_onen, b_oned, A_oned, n_oned, rfl, z_onen, z_oned, hb16⟩
  have R16 := ((((R15.below hb16).add z_onen).add z_oned).alloc 26 #[.bool b_onen, .slice A_onen n_onen n_onen, .bool b_oned, .slice A_oned n_oned n_oned] (g := w16.heap.size) rfl rfl)
  clear z_onen z_oned hb16 R15
  rcases qcmp_zero ra with h0 | h0
  · have HC := Lib.hid h0
    clear h0
    go_wp2_with fail
    have D17 := R16.drew
    have s17 := And.intro (D17.cell 1 0 rfl rfl) (And.intro (D17.cell 1 1 rfl rfl) (And.intro (D17.cell 1 2 rfl rfl) (And.intro (D17.cell 1 3 rfl rfl) (And.intro (D17.cell 0 0 rfl rfl) (And.intro (D17.cell 0 1 rfl rfl) (And.intro (D17.cell 0 2 rfl rfl) (D17.cell 0 3 rfl rfl)))))))
    refine wp_region_late [] (fun w' => w'.cell? ⟨w5.heap.size, 0, none⟩ = some (.bool b_fn) ∧ w'.cell? ⟨w5.heap.size, 1, none⟩ = some (.slice A_fn n_fn n_fn) ∧ w'.cell? ⟨w5.heap.size, 2, none⟩ = some (.bool b_fd) ∧ w'.cell? ⟨w5.heap.size, 3, none⟩ = some (.slice A_fd n_fd n_fd) ∧ w'.cell? ⟨w16.heap.size, 0, none⟩ = some (.bool b_onen) ∧ w'.cell? ⟨w16.heap.size, 1, none⟩ = some (.slice A_onen n_onen n_onen) ∧ w'.cell? ⟨w16.heap.size, 2, none⟩ = some (.bool b_oned) ∧ w'.cell? ⟨w16.heap.size, 3, none⟩ = some (.slice A_oned n_oned n_oned)) (by kernel_rfl) ?_
    refine wpAnyL_take (i := 0) (v := ?_) rfl (by kernel_rfl) (by kernel_rfl) (by kernel_rfl) (by kernel_rfl) (by kernel_rfl) (fun _ _ _ h => h) (Or.inl ⟨by kernel_rfl, ?_⟩) s17 ?_
    rotate_left
    · rintro w' ⟨h1, h2, h3, h4, h5, h6, h7, h8⟩; go_simp; (try with_reducible rfl)
    try simp only [Act.put, List.getElem_toArray, List.getElem_cons_succ, List.getElem_cons_zero, List.setIfInBounds_toArray, List.set_cons_zero, List.set_cons_succ]
    refine wpAnyL_one (i := 1) (by kernel_rfl) rfl (fun K hK => ?_)
    go_simp
    refine (rqzero _).mono ?_; rintro e w18 ⟨b_zen, A_zen, n_zen, c_zen, b_zed, A_zed, n_zed, c_zed, rfl, z_zen, z_zed, hb18⟩
    have R18 := (((D17.below hb18).add z_zen).add z_zed)
    have s18 := And.intro (R18.cell 1 0 rfl rfl) (And.intro (R18.cell 1 1 rfl rfl) (And.intro (R18.cell 1 2 rfl rfl) (And.intro (R18.cell 1 3 rfl rfl) (And.intro (R18.cell 0 0 rfl rfl) (And.intro (R18.cell 0 1 rfl rfl) (And.intro (R18.cell 0 2 rfl rfl) (R18.cell 0 3 rfl rfl)))))))
    clear z_zen z_zed hb18 D17 s17
    go_wp2_with fail
    refine hK.out _ _ (fun _ => s18) ?_
    clear hK K
    try simp only [Act.put, List.getElem_toArray, List.getElem_cons_succ, List.getElem_cons_zero, List.setIfInBounds_toArray, List.set_cons_zero, List.set_cons_succ]
    refine wpAnyL_one (i := 2) (by kernel_rfl) rfl (fun K hK => ?_)
    go_simp
    refine (qcmp_ (k := 9) (R18.z 11 rfl) (R18.z 10 rfl) (R18.z 1 rfl) (R18.z 0 rfl) (by decide) (by decide) (by decide) (by decide) (by decide) (by decide) (qv_self ((qfrac ra))) (qv_self (0)) HC.out).mono ?_; rintro e w19 ⟨rfl, hb19⟩
    have R19 := (R18.below hb19)
    have s19 := And.intro (R19.cell 1 0 rfl rfl) (And.intro (R19.cell 1 1 rfl rfl) (And.intro (R19.cell 1 2 rfl rfl) (And.intro (R19.cell 1 3 rfl rfl) (And.intro (R19.cell 0 0 rfl rfl) (And.intro (R19.cell 0 1 rfl rfl) (And.intro (R19.cell 0 2 rfl rfl) (R19.cell 0 3 rfl rfl)))))))
    clear hb19 R18 s18
    go_wp2_with fail
    refine hK.out _ _ (fun _ => s19) ?_
    clear hK K
    try simp only [Act.put, List.getElem_toArray, List.getElem_cons_succ, List.getElem_cons_zero, List.setIfInBounds_toArray, List.set_cons_zero, List.set_cons_succ]
    refine wpAnyL_take (i := 3) (v := ?_) rfl (by kernel_rfl) (by kernel_rfl) (by kernel_rfl) (by kernel_rfl) (by kernel_rfl) (fun _ _ _ h => h) (Or.inl ⟨by kernel_rfl, ?_⟩) s19 ?_
    rotate_left
    · rintro w' ⟨h1, h2, h3, h4, h5, h6, h7, h8⟩; go_simp; (try with_reducible rfl)
    try simp only [Act.put, List.getElem_toArray, List.getElem_cons_succ, List.getElem_cons_zero, List.setIfInBounds_toArray, List.set_cons_zero, List.set_cons_succ]
    refine wpAnyL_take (i := 4) (v := ?_) rfl (by kernel_rfl) (by kernel_rfl) (by kernel_rfl) (by kernel_rfl) (by kernel_rfl) (fun _ _ _ h => h) (Or.inl ⟨by kernel_rfl, ?_⟩) s19 ?_
    rotate_left
    · rintro w' ⟨h1, h2, h3, h4, h5, h6, h7, h8⟩; go_simp; (try with_reducible rfl)
    try simp only [Act.put, List.getElem_toArray, List.getElem_cons_succ, List.getElem_cons_zero, List.setIfInBounds_toArray, List.set_cons_zero, List.set_cons_succ]
    refine wpAnyL_take (i := 5) (v := ?_) rfl (by kernel_rfl) (by kernel_rfl) (by kernel_rfl) (by kernel_rfl) (by kernel_rfl) (fun _ _ _ h => h) (Or.inl ⟨by kernel_rfl, ?_⟩) s19 ?_
    rotate_left
    · rintro w' ⟨h1, h2, h3, h4, h5, h6, h7, h8⟩; go_simp; (try with_reducible rfl)
    try simp only [Act.put, List.getElem_toArray, List.getElem_cons_succ, List.getElem_cons_zero, List.setIfInBounds_toArray, List.set_cons_zero, List.set_cons_succ]
    refine wpAnyL_take (i := 6) (v := ?_) rfl (by kernel_rfl) (by kernel_rfl) (by kernel_rfl) (by kernel_rfl) (by kernel_rfl) (fun _ _ _ h => h) (Or.inl ⟨by kernel_rfl, ?_⟩) s19 ?_
    rotate_left
    · rintro w' ⟨h1, h2, h3, h4, h5, h6, h7, h8⟩; go_simp; (try with_reducible rfl)
    try simp only [Act.put, List.getElem_toArray, List.getElem_cons_succ, List.getElem_cons_zero, List.setIfInBounds_toArray, List.set_cons_zero, List.set_cons_succ]
    refine wpAnyL_one (i := 7) (by kernel_rfl) rfl (fun K hK => ?_)
    go_simp
    refine (qcmp_ (k := 9) (R19.z 11 rfl) (R19.z 10 rfl) (R19.z 3 rfl) (R19.z 2 rfl) (by decide) (by decide) (by decide) (by decide) (by decide) (by decide) (qv_self ((qfrac ra))) (qv_self (1)) (qcmp_one ra)).mono ?_; rintro e w20 ⟨rfl, hb20⟩
    have R20 := (R19.below hb20)
    have s20 := And.intro (R20.cell 1 0 rfl rfl) (And.intro (R20.cell 1 1 rfl rfl) (And.intro (R20.cell 1 2 rfl rfl) (And.intro (R20.cell 1 3 rfl rfl) (And.intro (R20.cell 0 0 rfl rfl) (And.intro (R20.cell 0 1 rfl rfl) (And.intro (R20.cell 0 2 rfl rfl) (R20.cell 0 3 rfl rfl)))))))
    clear hb20 R19 s19
    go_wp2_with fail
    refine hK.out _ _ (fun _ => s20) ?_
    clear hK K
    try simp only [Act.put, List.getElem_toArray, List.getElem_cons_succ, List.getElem_cons_zero, List.setIfInBounds_toArray, List.set_cons_zero, List.set_cons_succ]
    refine wpAnyL_take (i := 8) (v := ?_) rfl (by kernel_rfl) (by kernel_rfl) (by kernel_rfl) (by kernel_rfl) (by kernel_rfl) (fun _ _ _ h => h) (Or.inl ⟨by kernel_rfl, ?_⟩) s20 ?_
    rotate_left
    · rintro w' ⟨h1, h2, h3, h4, h5, h6, h7, h8⟩; go_simp; (try with_reducible rfl)
    try simp only [Act.put, List.getElem_toArray, List.getElem_cons_succ, List.getElem_cons_zero, List.setIfInBounds_toArray, List.set_cons_zero, List.set_cons_succ]
    refine wpAnyL_take (i := 9) (v := ?_) rfl (by kernel_rfl) (by kernel_rfl) (by kernel_rfl) (by kernel_rfl) (by kernel_rfl) (fun _ _ _ h => h) (Or.inl ⟨by kernel_rfl, ?_⟩) s20 ?_
    rotate_left
    · rintro w' ⟨h1, h2, h3, h4, h5, h6, h7, h8⟩; go_simp; (try with_reducible rfl)
    try simp only [Act.put, List.getElem_toArray, List.getElem_cons_succ, List.getElem_cons_zero, List.setIfInBounds_toArray, List.set_cons_zero, List.set_cons_succ]
    refine wpAnyL_one (i := 10) (by kernel_rfl) rfl (fun K hK => ?_)
    go_simp
    refine hK.out _ _ (fun _ => s20) ?_
    clear hK K
    try simp only [Act.put, List.getElem_toArray, List.getElem_cons_succ, List.getElem_cons_zero, List.setIfInBounds_toArray, List.set_cons_zero, List.set_cons_succ]
    refine wpAnyL_done (by kernel_rfl) ?_ _
    go_wp2_with fail
    go_ret
    exact ⟨rfl, R20.bel⟩
  · have HC := Lib.hid h0
    clear h0
    go_wp2_with fail
    have D17 := R16.drew
    have s17 := And.intro (D17.cell 1 0 rfl rfl) (And.intro (D17.cell 1 1 rfl rfl) (And.intro (D17.cell 1 2 rfl rfl) (And.intro (D17.cell 1 3 rfl rfl) (And.intro (D17.cell 0 0 rfl rfl) (And.intro (D17.cell 0 1 rfl rfl) (And.intro (D17.cell 0 2 rfl rfl) (D17.cell 0 3 rfl rfl)))))))
    refine wp_region_late [] (fun w' => w'.cell? ⟨w5.heap.size, 0, none⟩ = some (.bool b_fn) ∧ w'.cell? ⟨w5.heap.size, 1, none⟩ = some (.slice A_fn n_fn n_fn) ∧ w'.cell? ⟨w5.heap.size, 2, none⟩ = some (.bool b_fd) ∧ w'.cell? ⟨w5.heap.size, 3, none⟩ = some (.slice A_fd n_fd n_fd) ∧ w'.cell? ⟨w16.heap.size, 0, none⟩ = some (.bool b_onen) ∧ w'.cell? ⟨w16.heap.size, 1, none⟩ = some (.slice A_onen n_onen n_onen) ∧ w'.cell? ⟨w16.heap.size, 2, none⟩ = some (.bool b_oned) ∧ w'.cell? ⟨w16.heap.size, 3, none⟩ = some (.slice A_oned n_oned n_oned)) (by kernel_rfl) ?_
    refine wpAnyL_take (i := 0) (v := ?_) rfl (by kernel_rfl) (by kernel_rfl) (by kernel_rfl) (by kernel_rfl) (by kernel_rfl) (fun _ _ _ h => h) (Or.inl ⟨by kernel_rfl, ?_⟩) s17 ?_
    rotate_left
    · rintro w' ⟨h1, h2, h3, h4, h5, h6, h7, h8⟩; go_simp; (try with_reducible rfl)
    try simp only [Act.put, List.getElem_toArray, List.getElem_cons_succ, List.getElem_cons_zero, List.setIfInBounds_toArray, List.set_cons_zero, List.set_cons_succ]
    refine wpAnyL_one (i := 1) (by kernel_rfl) rfl (fun K hK => ?_)
    go_simp
    refine (rqzero _).mono ?_; rintro e w18 ⟨b_zen, A_zen, n_zen, c_zen, b_zed, A_zed, n_zed, c_zed, rfl, z_zen, z_zed, hb18⟩
    have R18 := (((D17.below hb18).add z_zen).add z_zed)
    have s18 := And.intro (R18.cell 1 0 rfl rfl) (And.intro (R18.cell 1 1 rfl rfl) (And.intro (R18.cell 1 2 rfl rfl) (And.intro (R18.cell 1 3 rfl rfl) (And.intro (R18.cell 0 0 rfl rfl) (And.intro (R18.cell 0 1 rfl rfl) (And.intro (R18.cell 0 2 rfl rfl) (R18.cell 0 3 rfl rfl)))))))
    clear z_zen z_zed hb18 D17 s17
    go_wp2_with fail
    refine hK.out _ _ (fun _ => s18) ?_
    clear hK K
    try simp only [Act.put, List.getElem_toArray, List.getElem_cons_succ, List.getElem_cons_zero, List.setIfInBounds_toArray, List.set_cons_zero, List.set_cons_succ]
    refine wpAnyL_one (i := 2) (by kernel_rfl) rfl (fun K hK => ?_)
    go_simp
    refine (qcmp_ (k := 9) (R18.z 11 rfl) (R18.z 10 rfl) (R18.z 1 rfl) (R18.z 0 rfl) (by decide) (by decide) (by decide) (by decide) (by decide) (by decide) (qv_self ((qfrac ra))) (qv_self (0)) HC.out).mono ?_; rintro e w19 ⟨rfl, hb19⟩
    have R19 := (R18.below hb19)
    have s19 := And.intro (R19.cell 1 0 rfl rfl) (And.intro (R19.cell 1 1 rfl rfl) (And.intro (R19.cell 1 2 rfl rfl) (And.intro (R19.cell 1 3 rfl rfl) (And.intro (R19.cell 0 0 rfl rfl) (And.intro (R19.cell 0 1 rfl rfl) (And.intro (R19.cell 0 2 rfl rfl) (R19.cell 0 3 rfl rfl)))))))
    clear hb19 R18 s18
    go_wp2_with fail
    refine hK.out _ _ (fun _ => s19) ?_
    clear hK K
    try simp only [Act.put, List.getElem_toArray, List.getElem_cons_succ, List.getElem_cons_zero, List.setIfInBounds_toArray, List.set_cons_zero, List.set_cons_succ]
    refine wpAnyL_take (i := 3) (v := ?_) rfl (by kernel_rfl) (by kernel_rfl) (by kernel_rfl) (by kernel_rfl) (by kernel_rfl) (fun _ _ _ h => h) (Or.inl ⟨by kernel_rfl, ?_⟩) s19 ?_
    rotate_left
    · rintro w' ⟨h1, h2, h3, h4, h5, h6, h7, h8⟩; go_simp; (try with_reducible rfl)
    try simp only [Act.put, List.getElem_toArray, List.getElem_cons_succ, List.getElem_cons_zero, List.setIfInBounds_toArray, List.set_cons_zero, List.set_cons_succ]
    refine wpAnyL_take (i := 4) (v := ?_) rfl (by kernel_rfl) (by kernel_rfl) (by kernel_rfl) (by kernel_rfl) (by kernel_rfl) (fun _ _ _ h => h) (Or.inl ⟨by kernel_rfl, ?_⟩) s19 ?_
    rotate_left
    · rintro w' ⟨h1, h2, h3, h4, h5, h6, h7, h8⟩; go_simp; (try with_reducible rfl)
    try simp only [Act.put, List.getElem_toArray, List.getElem_cons_succ, List.getElem_cons_zero, List.setIfInBounds_toArray, List.set_cons_zero, List.set_cons_succ]
    refine wpAnyL_take (i := 5) (v := ?_) rfl (by kernel_rfl) (by kernel_rfl) (by kernel_rfl) (by kernel_rfl) (by kernel_rfl) (fun _ _ _ h => h) (Or.inl ⟨by kernel_rfl, ?_⟩) s19 ?_
    rotate_left
    · rintro w' ⟨h1, h2, h3, h4, h5, h6, h7, h8⟩; go_simp; (try with_reducible rfl)
    try simp only [Act.put, List.getElem_toArray, List.getElem_cons_succ, List.getElem_cons_zero, List.setIfInBounds_toArray, List.set_cons_zero, List.set_cons_succ]
    refine wpAnyL_take (i := 6) (v := ?_) rfl (by kernel_rfl) (by kernel_rfl) (by kernel_rfl) (by kernel_rfl) (by kernel_rfl) (fun _ _ _ h => h) (Or.inl ⟨by kernel_rfl, ?_⟩) s19 ?_
    rotate_left
    · rintro w' ⟨h1, h2, h3, h4, h5, h6, h7, h8⟩; go_simp; (try with_reducible rfl)
    try simp only [Act.put, List.getElem_toArray, List.getElem_cons_succ, List.getElem_cons_zero, List.setIfInBounds_toArray, List.set_cons_zero, List.set_cons_succ]
    refine wpAnyL_one (i := 7) (by kernel_rfl) rfl (fun K hK => ?_)
    go_simp
    refine (qcmp_ (k := 9) (R19.z 11 rfl) (R19.z 10 rfl) (R19.z 3 rfl) (R19.z 2 rfl) (by decide) (by decide) (by decide) (by decide) (by decide) (by decide) (qv_self ((qfrac ra))) (qv_self (1)) (qcmp_one ra)).mono ?_; rintro e w20 ⟨rfl, hb20⟩
    have R20 := (R19.below hb20)
    have s20 := And.intro (R20.cell 1 0 rfl rfl) (And.intro (R20.cell 1 1 rfl rfl) (And.intro (R20.cell 1 2 rfl rfl) (And.intro (R20.cell 1 3 rfl rfl) (And.intro (R20.cell 0 0 rfl rfl) (And.intro (R20.cell 0 1 rfl rfl) (And.intro (R20.cell 0 2 rfl rfl) (R20.cell 0 3 rfl rfl)))))))
    clear hb20 R19 s19
    go_wp2_with fail
    refine hK.out _ _ (fun _ => s20) ?_
    clear hK K
    try simp only [Act.put, List.getElem_toArray, List.getElem_cons_succ, List.getElem_cons_zero, List.setIfInBounds_toArray, List.set_cons_zero, List.set_cons_succ]
    refine wpAnyL_take (i := 8) (v := ?_) rfl (by kernel_rfl) (by kernel_rfl) (by kernel_rfl) (by kernel_rfl) (by kernel_rfl) (fun _ _ _ h => h) (Or.inl ⟨by kernel_rfl, ?_⟩) s20 ?_
    rotate_left
    · rintro w' ⟨h1, h2, h3, h4, h5, h6, h7, h8⟩; go_simp; (try with_reducible rfl)
    try simp only [Act.put, List.getElem_toArray, List.getElem_cons_succ, List.getElem_cons_zero, List.setIfInBounds_toArray, List.set_cons_zero, List.set_cons_succ]
    refine wpAnyL_take (i := 9) (v := ?_) rfl (by kernel_rfl) (by kernel_rfl) (by kernel_rfl) (by kernel_rfl) (by kernel_rfl) (fun _ _ _ h => h) (Or.inl ⟨by kernel_rfl, ?_⟩) s20 ?_
    rotate_left
    · rintro w' ⟨h1, h2, h3, h4, h5, h6, h7, h8⟩; go_simp; (try with_reducible rfl)
    try simp only [Act.put, List.getElem_toArray, List.getElem_cons_succ, List.getElem_cons_zero, List.setIfInBounds_toArray, List.set_cons_zero, List.set_cons_succ]
    refine wpAnyL_one (i := 10) (by kernel_rfl) rfl (fun K hK => ?_)
    go_simp
    refine hK.out _ _ (fun _ => s20) ?_
    clear hK K
    try simp only [Act.put, List.getElem_toArray, List.getElem_cons_succ, List.getElem_cons_zero, List.setIfInBounds_toArray, List.set_cons_zero, List.set_cons_succ]
    refine wpAnyL_done (by kernel_rfl) ?_ _
    go_wp2_with fail
    go_ret
    exact ⟨rfl, R20.bel⟩
end Go.Proofs.YticjhlbmdjijnaaGreatDoor
