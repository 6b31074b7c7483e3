/- The law RatioWhole, walked. No condition but the reach of a slice. No condition but the reach of a slice. -/
import Derived.Test.YticjhlbmdjijnaaGreatDoorHQAwake
import Derived.Test.YticjhlbmdjijnaaGreatDoorHQFew
import Derived.Test.YticjhlbmdjijnaaGreatDoorHQT
import Derived.Test.YticjhlbmdjijnaaGreatDoorHQU
import Derived.Test.YticjhlbmdjijnaaGreatDoorHQMore
import Derived.Deep.DeepCutAuto
namespace Go.Proofs.YticjhlbmdjijnaaGreatDoor
set_option linter.unusedSimpArgs false
set_option linter.unusedVariables false
open Go.RowKit

theorem qv_int0 (x : Int) : qv x ((((0 : Rat)).den : Nat) : Int) = (x : Rat) := qv_int x
theorem qwh_neg (r : Rat) : (0 : Rat) - ((r.ceil : Int) : Rat) = (((0 - r).floor : Int) : Rat) := by
  have e : (0 : Rat) - r = -r := by grind
  rw [e, Rat.ceil_eq_neg_floor_neg, Rat.intCast_neg]
  generalize (((-r).floor : Int) : Rat) = x
  grind
theorem qwh_0 {r : Rat} (h : qcmp (qfrac r) 0 = 0) : qcmp ((r.floor : Int) : Rat) r = 0 ∧ qcmp ((r.ceil : Int) : Rat) r = 0 ∧ ((r.ceil : Int) : Rat) - ((r.floor : Int) : Rat) = 0 := by
  have e := qcmp_eq.1 h
  unfold qfrac at e
  have e1 : ((r.floor : Int) : Rat) = r := by
    generalize ((r.floor : Int) : Rat) = x at e
    grind
  have e2 : ((r.ceil : Int) : Rat) = r := by
    have : r.ceil = r.floor := by
      generalize r.floor = k at e1
      subst e1
      exact Rat.ceil_intCast k
    rw [this]; exact e1
  refine ⟨qcmp_eq.2 e1, qcmp_eq.2 e2, ?_⟩
  rw [e1, e2]; grind
theorem qwh_1 {r : Rat} (h : qcmp (qfrac r) 0 = 1) : qcmp ((r.floor : Int) : Rat) r = -1 ∧ qcmp ((r.ceil : Int) : Rat) r = 1 ∧ ((r.ceil : Int) : Rat) - ((r.floor : Int) : Rat) = 1 := by
  have e := qcmp_gt.1 h
  unfold qfrac at e
  have e1 : ((r.floor : Int) : Rat) < r := by
    generalize ((r.floor : Int) : Rat) = x at e
    grind
  have e3 := Rat.lt_floor_add_one r
  have e4 : r.ceil = r.floor + 1 := by
    have a1 : r.floor < r.ceil := Rat.lt_ceil_iff.2 e1
    have a2 : r.ceil ≤ r.floor + 1 := Rat.ceil_le_iff.2 (Rat.le_of_lt e3)
    omega
  have e5 : ((r.ceil : Int) : Rat) = ((r.floor : Int) : Rat) + 1 := by rw [e4, Rat.intCast_add]; rfl
  rw [e5]
  have e6 : r < ((r.floor : Int) : Rat) + 1 := by rw [Rat.intCast_add] at e3; exact e3
  refine ⟨qcmp_lt.2 e1, qcmp_gt.2 e6, ?_⟩
  generalize ((r.floor : Int) : Rat) = x
  grind
set_option maxRecDepth 100000 in
set_option maxHeartbeats 25600000 in
theorem ratioWhole_any (ba : Bool) (Aa : Option Addr) (na ca : Nat) (la : List Nat) (ba' : Bool) (Aa' : Option Addr) (na' ca' : Nat) (la' : List Nat) (w : World) (hra : Lim w Aa na ca la) (hna : na ≤ maxLen) (hra' : Lim w Aa' na' ca' la') (hna' : na' ≤ maxLen) : Calls Tryz.prog 5 #[.agg #[.bool ba, .slice Aa na ca, .bool ba', .slice Aa' na' ca']] w fun e w' => e = .returned (.bool true) ∧ Below w.heap.size w w' := by
  by_cases hfa : ¬ (na ≤ 4 ∧ na' ≤ 4)
  · have R0 := ((Env.nil_ w).alloc 26 #[.bool ba, .slice Aa na ca, .bool ba', .slice Aa' na' ca'] (g := w.heap.size) rfl rfl)
    have HF := Lib.hid hfa
    clear hfa
    go_enter Tryz.func5, Tryz.ntmps5
    go_wp2_with fail
    refine (qawake_any _).mono ?_; rintro e w1 ⟨rfl, hb1⟩
    have R1 := (R0.below hb1)
    clear hb1 R0
    have k2a0 := R1.cell 0 0 rfl rfl
    have k2a1 := R1.cell 0 1 rfl rfl
    have k2a2 := R1.cell 0 2 rfl rfl
    have k2a3 := R1.cell 0 3 rfl rfl
    go_wp2_with fail
    clear k2a0 k2a1 k2a2 k2a3
    refine (qfew _ _ _ _ _ _ _ _ _).mono ?_; rintro e w2 ⟨rfl, hb2⟩
    have R2 := (R1.below hb2)
    clear hb2 R1
    rw [decide_eq_false HF.out]
    go_wp2_with fail
    go_ret
    exact ⟨rfl, R2.bel⟩
  have hfa := Lib.hid (Classical.not_not.1 hfa)
  have zan := ZIs.of_lim (b := ba) (k := 4) hra hfa.out.1
  have zad := ZIs.of_lim (b := ba') (k := 4) hra' hfa.out.2
  generalize zv ba (vl la) = xa at zan
  generalize zv ba' (vl la') = ya at zad
  obtain ⟨ra, hra_⟩ : ∃ r, qv xa ya = r := ⟨_, rfl⟩
  have Ha := Lib.hid hra_
  clear hra_ hra hra' hna hna'
  have R0 := ((((Env.nil_ w).add zan).add zad).alloc 26 #[.bool ba, .slice Aa na ca, .bool ba', .slice Aa' na' ca'] (g := w.heap.size) rfl rfl)
  clear zan zad
  rcases qcmp_zero ra with h0 | h0
  · have HC := Lib.hid h0
    have HW := Lib.hid (qwh_0 h0)
    clear h0
    go_enter Tryz.func5, Tryz.ntmps5
    go_wp2_with fail
    refine (qawake_any _).mono ?_; rintro e w1 ⟨rfl, hb1⟩
    have R1 := (R0.below hb1)
    clear hb1 R0
    have k2a0 := R1.cell 0 0 rfl rfl
    have k2a1 := R1.cell 0 1 rfl rfl
    have k2a2 := R1.cell 0 2 rfl rfl
    have k2a3 := R1.cell 0 3 rfl rfl
    go_wp2_with fail
    clear k2a0 k2a1 k2a2 k2a3
    refine (qfew _ _ _ _ _ _ _ _ _).mono ?_; rintro e w2 ⟨rfl, hb2⟩
    have R2 := (R1.below hb2)
    clear hb2 R1
    rw [decide_eq_true hfa.out]
    go_wp2_with fail
    refine (rqzero _).mono ?_; rintro e w3 ⟨b_zen, A_zen, n_zen, c_zen, b_zed, A_zed, n_zed, c_zed, rfl, z_zen, z_zed, hb3⟩
    have R3 := ((((R2.below hb3).add z_zen).add z_zed).alloc 26 #[.bool b_zen, .slice A_zen n_zen c_zen, .bool b_zed, .slice A_zed n_zed c_zed] (g := w3.heap.size) rfl rfl)
    clear z_zen z_zed hb3 R2
    go_upto_region 6 with (fail)
    go_cut [4] (fun p_ wx => ∃ (g_f : Nat) (b_fl : Bool) (A_fl : Option Addr) (n_fl : Nat), p_ = .pointer (some ⟨g_f, 0, none⟩) ∧ Env w wx [(g_f, 26, #[.bool b_fl, .slice A_fl n_fl n_fl, .bool b_zed, .slice A_zed n_zed c_zed]), (w3.heap.size, 26, #[.bool b_zen, .slice A_zen n_zen c_zen, .bool b_zed, .slice A_zed n_zed c_zed]), (w.heap.size, 26, #[.bool ba, .slice Aa na ca, .bool ba', .slice Aa' na' ca'])] [⟨b_fl, A_fl, n_fl, n_fl, ra.floor, 4, true⟩, ⟨b_zed, A_zed, n_zed, c_zed, ((((0 : Rat)).den : Nat) : Int), 1, true⟩, ⟨b_zen, A_zen, n_zen, c_zen, ((0 : Rat)).num, 1, true⟩, ⟨ba', Aa', na', ca', ya, 4, false⟩, ⟨ba, Aa, na, ca, xa, 4, false⟩])
    case first =>
      have R4 := R3.drew
      refine wp_region_late [] (fun w' => w'.cell? ⟨w.heap.size, 0, none⟩ = some (.bool ba) ∧ w'.cell? ⟨w.heap.size, 1, none⟩ = some (.slice Aa na ca) ∧ w'.cell? ⟨w.heap.size, 2, none⟩ = some (.bool ba') ∧ w'.cell? ⟨w.heap.size, 3, none⟩ = some (.slice Aa' na' ca') ∧ w'.cell? ⟨w3.heap.size, 0, none⟩ = some (.bool b_zen) ∧ w'.cell? ⟨w3.heap.size, 1, none⟩ = some (.slice A_zen n_zen c_zen) ∧ w'.cell? ⟨w3.heap.size, 2, none⟩ = some (.bool b_zed) ∧ w'.cell? ⟨w3.heap.size, 3, none⟩ = some (.slice A_zed n_zed c_zed)) (by kernel_rfl) ?_
      generalize hgw : World.drew _ = w4 at *
      clear hgw
      have s4 := And.intro (R4.cell 1 0 rfl rfl) (And.intro (R4.cell 1 1 rfl rfl) (And.intro (R4.cell 1 2 rfl rfl) (And.intro (R4.cell 1 3 rfl rfl) (And.intro (R4.cell 0 0 rfl rfl) (And.intro (R4.cell 0 1 rfl rfl) (And.intro (R4.cell 0 2 rfl rfl) (R4.cell 0 3 rfl rfl)))))))
      refine wpAnyL_take (i := 0) (v := ?_) rfl (by kernel_rfl) (by kernel_rfl) (by kernel_rfl) (by kernel_rfl) (by kernel_rfl) (fun _ _ _ h => h) (Or.inl ⟨by kernel_rfl, ?_⟩) s4 ?_
      rotate_left
      · rintro w' ⟨h1, h2, h3, h4, h5, h6, h7, h8⟩; go_simp; (try with_reducible rfl)
      try simp only [Act.put, List.setIfInBounds_toArray, List.set_cons_zero, List.set_cons_succ]
      refine wpAnyL_take (i := 2) (v := ?_) rfl (by kernel_rfl) (by kernel_rfl) (by kernel_rfl) (by kernel_rfl) (by kernel_rfl) (fun _ _ _ h => h) (Or.inl ⟨by kernel_rfl, ?_⟩) s4 ?_
      rotate_left
      · rintro w' ⟨h1, h2, h3, h4, h5, h6, h7, h8⟩; go_simp; (try with_reducible rfl)
      try simp only [Act.put, List.setIfInBounds_toArray, List.set_cons_zero, List.set_cons_succ]
      refine wpAnyL_take (i := 3) (v := ?_) rfl (by kernel_rfl) (by kernel_rfl) (by kernel_rfl) (by kernel_rfl) (by kernel_rfl) (fun _ _ _ h => h) (Or.inl ⟨by kernel_rfl, ?_⟩) s4 ?_
      rotate_left
      · rintro w' ⟨h1, h2, h3, h4, h5, h6, h7, h8⟩; go_simp; (try with_reducible rfl)
      try simp only [Act.put, List.setIfInBounds_toArray, List.set_cons_zero, List.set_cons_succ]
      refine wpAnyL_all (rs := [1, 5]) (by kernel_rfl) (by simp) (StepsL.cons (i := 1) rfl (fun K hK => ?_) (StepsL.cons (i := 5) rfl (fun K hK => ?_) StepsL.nil))
      · go_simp
        refine (qfloor (k := 4) (R4.z 3 rfl) (R4.z 2 rfl) (by decide) (by decide) (by decide) (by decide) Ha.out).mono ?_; rintro e w5 ⟨b_fl, A_fl, n_fl, rfl, z_fl, hb5⟩
        have R5 := ((R4.below hb5).add z_fl)
        have s5 := And.intro (R5.cell 1 0 rfl rfl) (And.intro (R5.cell 1 1 rfl rfl) (And.intro (R5.cell 1 2 rfl rfl) (And.intro (R5.cell 1 3 rfl rfl) (And.intro (R5.cell 0 0 rfl rfl) (And.intro (R5.cell 0 1 rfl rfl) (And.intro (R5.cell 0 2 rfl rfl) (R5.cell 0 3 rfl rfl)))))))
        go_wp2_with fail
        refine hK.out _ _ (fun _ => s5) ?_
        clear hK K
        try simp only [Act.put, List.setIfInBounds_toArray, List.set_cons_zero, List.set_cons_succ]
        refine wpAnyL_take (i := 4) (v := ?_) rfl (by kernel_rfl) (by kernel_rfl) (by kernel_rfl) (by kernel_rfl) (by kernel_rfl) (fun _ _ _ h => h) (Or.inl ⟨by kernel_rfl, ?_⟩) s5 ?_
        rotate_left
        · rintro w' ⟨h1, h2, h3, h4, h5, h6, h7, h8⟩; go_simp; (try with_reducible rfl)
        try simp only [Act.put, List.setIfInBounds_toArray, List.set_cons_zero, List.set_cons_succ]
        refine wpAnyL_one (i := 5) (by kernel_rfl) rfl (fun K hK => ?_)
        go_simp
        have R6 := R5.alloc 26 #[.bool false, .slice none 0 0, .bool false, .slice none 0 0] (g := w5.heap.size) rfl rfl
        have s6 := And.intro (R6.cell 2 0 rfl rfl) (And.intro (R6.cell 2 1 rfl rfl) (And.intro (R6.cell 2 2 rfl rfl) (And.intro (R6.cell 2 3 rfl rfl) (And.intro (R6.cell 1 0 rfl rfl) (And.intro (R6.cell 1 1 rfl rfl) (And.intro (R6.cell 1 2 rfl rfl) (R6.cell 1 3 rfl rfl)))))))
        refine hK.out _ _ (fun _ => s6) ?_
        clear hK K
        try simp only [Act.put, List.setIfInBounds_toArray, List.set_cons_zero, List.set_cons_succ]
        generalize (w5.alloc (.cells #[.bool false, .slice none 0 0, .bool false, .slice none 0 0] 26)) = w6 at *
        refine wpAnyL_one (i := 6) (by kernel_rfl) rfl (fun K hK => ?_)
        have fc0 := R6.cell 0 0 rfl rfl
        have ff0 := R6.frozen 0 0 rfl
        have fc1 := R6.cell 0 1 rfl rfl
        have ff1 := R6.frozen 0 1 rfl
        have fc2 := R6.cell 0 2 rfl rfl
        have ff2 := R6.frozen 0 2 rfl
        have fc3 := R6.cell 0 3 rfl rfl
        have ff3 := R6.frozen 0 3 rfl
        go_simp
        clear fc0 ff0 fc1 ff1 fc2 ff2 fc3 ff3
        have R7 := R6.st4 0 (.bool b_fl) (.slice A_fl n_fl n_fl) (.bool b_zed) (.slice A_zed n_zed c_zed) rfl rfl rfl rfl rfl
        have s7 := And.intro (R7.cell 2 0 rfl rfl) (And.intro (R7.cell 2 1 rfl rfl) (And.intro (R7.cell 2 2 rfl rfl) (And.intro (R7.cell 2 3 rfl rfl) (And.intro (R7.cell 1 0 rfl rfl) (And.intro (R7.cell 1 1 rfl rfl) (And.intro (R7.cell 1 2 rfl rfl) (R7.cell 1 3 rfl rfl)))))))
        refine hK.out _ _ (fun _ => s7) ?_
        clear hK K
        try simp only [Act.put, List.setIfInBounds_toArray, List.set_cons_zero, List.set_cons_succ]
        generalize ((((w6.setCell ⟨w5.heap.size, 0, none⟩ (.bool b_fl)).setCell ⟨w5.heap.size, 1, none⟩ (.slice A_fl n_fl n_fl)).setCell ⟨w5.heap.size, 2, none⟩ (.bool b_zed)).setCell ⟨w5.heap.size, 3, none⟩ (.slice A_zed n_zed c_zed)) = w7 at *
        refine wpAnyL_done (by kernel_rfl) ?_ _
        go_wp2_with fail
        go_meet
        exact ⟨_, _, _, _, rfl, R7⟩
      · go_simp
        have R8 := R4.alloc 26 #[.bool false, .slice none 0 0, .bool false, .slice none 0 0] (g := w4.heap.size) rfl rfl
        have s8 := And.intro (R8.cell 2 0 rfl rfl) (And.intro (R8.cell 2 1 rfl rfl) (And.intro (R8.cell 2 2 rfl rfl) (And.intro (R8.cell 2 3 rfl rfl) (And.intro (R8.cell 1 0 rfl rfl) (And.intro (R8.cell 1 1 rfl rfl) (And.intro (R8.cell 1 2 rfl rfl) (R8.cell 1 3 rfl rfl)))))))
        refine hK.out _ _ (fun _ => s8) ?_
        clear hK K
        try simp only [Act.put, List.setIfInBounds_toArray, List.set_cons_zero, List.set_cons_succ]
        generalize (w4.alloc (.cells #[.bool false, .slice none 0 0, .bool false, .slice none 0 0] 26)) = w8 at *
        refine wpAnyL_one (i := 1) (by kernel_rfl) rfl (fun K hK => ?_)
        go_simp
        refine (qfloor (k := 4) (R8.z 3 rfl) (R8.z 2 rfl) (by decide) (by decide) (by decide) (by decide) Ha.out).mono ?_; rintro e w9 ⟨b_fl, A_fl, n_fl, rfl, z_fl, hb9⟩
        have R9 := ((R8.below hb9).add z_fl)
        have s9 := And.intro (R9.cell 2 0 rfl rfl) (And.intro (R9.cell 2 1 rfl rfl) (And.intro (R9.cell 2 2 rfl rfl) (And.intro (R9.cell 2 3 rfl rfl) (And.intro (R9.cell 1 0 rfl rfl) (And.intro (R9.cell 1 1 rfl rfl) (And.intro (R9.cell 1 2 rfl rfl) (R9.cell 1 3 rfl rfl)))))))
        go_wp2_with fail
        refine hK.out _ _ (fun _ => s9) ?_
        clear hK K
        try simp only [Act.put, List.setIfInBounds_toArray, List.set_cons_zero, List.set_cons_succ]
        refine wpAnyL_take (i := 4) (v := ?_) rfl (by kernel_rfl) (by kernel_rfl) (by kernel_rfl) (by kernel_rfl) (by kernel_rfl) (fun _ _ _ h => h) (Or.inl ⟨by kernel_rfl, ?_⟩) s9 ?_
        rotate_left
        · rintro w' ⟨h1, h2, h3, h4, h5, h6, h7, h8⟩; go_simp; (try with_reducible rfl)
        try simp only [Act.put, List.setIfInBounds_toArray, List.set_cons_zero, List.set_cons_succ]
        refine wpAnyL_one (i := 6) (by kernel_rfl) rfl (fun K hK => ?_)
        have fc0 := R9.cell 0 0 rfl rfl
        have ff0 := R9.frozen 0 0 rfl
        have fc1 := R9.cell 0 1 rfl rfl
        have ff1 := R9.frozen 0 1 rfl
        have fc2 := R9.cell 0 2 rfl rfl
        have ff2 := R9.frozen 0 2 rfl
        have fc3 := R9.cell 0 3 rfl rfl
        have ff3 := R9.frozen 0 3 rfl
        go_simp
        clear fc0 ff0 fc1 ff1 fc2 ff2 fc3 ff3
        have R10 := R9.st4 0 (.bool b_fl) (.slice A_fl n_fl n_fl) (.bool b_zed) (.slice A_zed n_zed c_zed) rfl rfl rfl rfl rfl
        have s10 := And.intro (R10.cell 2 0 rfl rfl) (And.intro (R10.cell 2 1 rfl rfl) (And.intro (R10.cell 2 2 rfl rfl) (And.intro (R10.cell 2 3 rfl rfl) (And.intro (R10.cell 1 0 rfl rfl) (And.intro (R10.cell 1 1 rfl rfl) (And.intro (R10.cell 1 2 rfl rfl) (R10.cell 1 3 rfl rfl)))))))
        refine hK.out _ _ (fun _ => s10) ?_
        clear hK K
        try simp only [Act.put, List.setIfInBounds_toArray, List.set_cons_zero, List.set_cons_succ]
        generalize ((((w9.setCell ⟨w4.heap.size, 0, none⟩ (.bool b_fl)).setCell ⟨w4.heap.size, 1, none⟩ (.slice A_fl n_fl n_fl)).setCell ⟨w4.heap.size, 2, none⟩ (.bool b_zed)).setCell ⟨w4.heap.size, 3, none⟩ (.slice A_zed n_zed c_zed)) = w10 at *
        refine wpAnyL_done (by kernel_rfl) ?_ _
        go_wp2_with fail
        go_meet
        exact ⟨_, _, _, _, rfl, R10⟩
    case rest =>
      obtain ⟨g_f, b_fl, A_fl, n_fl, rfl, R110⟩ := hcut
      go_upto_region 7 with (fail)
      go_cut [5] (fun p_ wx => ∃ (g_c : Nat) (b_ce : Bool) (A_ce : Option Addr) (n_ce : Nat), p_ = .pointer (some ⟨g_c, 0, none⟩) ∧ Env w wx [(g_c, 26, #[.bool b_ce, .slice A_ce n_ce n_ce, .bool b_zed, .slice A_zed n_zed c_zed]), (g_f, 26, #[.bool b_fl, .slice A_fl n_fl n_fl, .bool b_zed, .slice A_zed n_zed c_zed]), (w3.heap.size, 26, #[.bool b_zen, .slice A_zen n_zen c_zen, .bool b_zed, .slice A_zed n_zed c_zed]), (w.heap.size, 26, #[.bool ba, .slice Aa na ca, .bool ba', .slice Aa' na' ca'])] [⟨b_ce, A_ce, n_ce, n_ce, ra.ceil, 4, true⟩, ⟨b_fl, A_fl, n_fl, n_fl, ra.floor, 4, true⟩, ⟨b_zed, A_zed, n_zed, c_zed, ((((0 : Rat)).den : Nat) : Int), 1, true⟩, ⟨b_zen, A_zen, n_zen, c_zen, ((0 : Rat)).num, 1, true⟩, ⟨ba', Aa', na', ca', ya, 4, false⟩, ⟨ba, Aa, na, ca, xa, 4, false⟩])
      case first =>
        have R111 := R110.drew
        refine wp_region_late [] (fun w' => w'.cell? ⟨w.heap.size, 0, none⟩ = some (.bool ba) ∧ w'.cell? ⟨w.heap.size, 1, none⟩ = some (.slice Aa na ca) ∧ w'.cell? ⟨w.heap.size, 2, none⟩ = some (.bool ba') ∧ w'.cell? ⟨w.heap.size, 3, none⟩ = some (.slice Aa' na' ca') ∧ w'.cell? ⟨w3.heap.size, 0, none⟩ = some (.bool b_zen) ∧ w'.cell? ⟨w3.heap.size, 1, none⟩ = some (.slice A_zen n_zen c_zen) ∧ w'.cell? ⟨w3.heap.size, 2, none⟩ = some (.bool b_zed) ∧ w'.cell? ⟨w3.heap.size, 3, none⟩ = some (.slice A_zed n_zed c_zed)) (by kernel_rfl) ?_
        generalize hgw : World.drew _ = w111 at *
        clear hgw
        have s111 := And.intro (R111.cell 2 0 rfl rfl) (And.intro (R111.cell 2 1 rfl rfl) (And.intro (R111.cell 2 2 rfl rfl) (And.intro (R111.cell 2 3 rfl rfl) (And.intro (R111.cell 1 0 rfl rfl) (And.intro (R111.cell 1 1 rfl rfl) (And.intro (R111.cell 1 2 rfl rfl) (R111.cell 1 3 rfl rfl)))))))
        refine wpAnyL_take (i := 0) (v := ?_) rfl (by kernel_rfl) (by kernel_rfl) (by kernel_rfl) (by kernel_rfl) (by kernel_rfl) (fun _ _ _ h => h) (Or.inl ⟨by kernel_rfl, ?_⟩) s111 ?_
        rotate_left
        · rintro w' ⟨h1, h2, h3, h4, h5, h6, h7, h8⟩; go_simp; (try with_reducible rfl)
        try simp only [Act.put, List.setIfInBounds_toArray, List.set_cons_zero, List.set_cons_succ]
        refine wpAnyL_take (i := 2) (v := ?_) rfl (by kernel_rfl) (by kernel_rfl) (by kernel_rfl) (by kernel_rfl) (by kernel_rfl) (fun _ _ _ h => h) (Or.inl ⟨by kernel_rfl, ?_⟩) s111 ?_
        rotate_left
        · rintro w' ⟨h1, h2, h3, h4, h5, h6, h7, h8⟩; go_simp; (try with_reducible rfl)
        try simp only [Act.put, List.setIfInBounds_toArray, List.set_cons_zero, List.set_cons_succ]
        refine wpAnyL_take (i := 3) (v := ?_) rfl (by kernel_rfl) (by kernel_rfl) (by kernel_rfl) (by kernel_rfl) (by kernel_rfl) (fun _ _ _ h => h) (Or.inl ⟨by kernel_rfl, ?_⟩) s111 ?_
        rotate_left
        · rintro w' ⟨h1, h2, h3, h4, h5, h6, h7, h8⟩; go_simp; (try with_reducible rfl)
        try simp only [Act.put, List.setIfInBounds_toArray, List.set_cons_zero, List.set_cons_succ]
        refine wpAnyL_all (rs := [1, 5]) (by kernel_rfl) (by simp) (StepsL.cons (i := 1) rfl (fun K hK => ?_) (StepsL.cons (i := 5) rfl (fun K hK => ?_) StepsL.nil))
        · go_simp
          refine (qceil (k := 4) (R111.z 4 rfl) (R111.z 3 rfl) (by decide) (by decide) (by decide) (by decide) Ha.out).mono ?_; rintro e w112 ⟨b_ce, A_ce, n_ce, rfl, z_ce, hb112⟩
          have R112 := ((R111.below hb112).add z_ce)
          have s112 := And.intro (R112.cell 2 0 rfl rfl) (And.intro (R112.cell 2 1 rfl rfl) (And.intro (R112.cell 2 2 rfl rfl) (And.intro (R112.cell 2 3 rfl rfl) (And.intro (R112.cell 1 0 rfl rfl) (And.intro (R112.cell 1 1 rfl rfl) (And.intro (R112.cell 1 2 rfl rfl) (R112.cell 1 3 rfl rfl)))))))
          go_wp2_with fail
          refine hK.out _ _ (fun _ => s112) ?_
          clear hK K
          try simp only [Act.put, List.setIfInBounds_toArray, List.set_cons_zero, List.set_cons_succ]
          refine wpAnyL_take (i := 4) (v := ?_) rfl (by kernel_rfl) (by kernel_rfl) (by kernel_rfl) (by kernel_rfl) (by kernel_rfl) (fun _ _ _ h => h) (Or.inl ⟨by kernel_rfl, ?_⟩) s112 ?_
          rotate_left
          · rintro w' ⟨h1, h2, h3, h4, h5, h6, h7, h8⟩; go_simp; (try with_reducible rfl)
          try simp only [Act.put, List.setIfInBounds_toArray, List.set_cons_zero, List.set_cons_succ]
          refine wpAnyL_one (i := 5) (by kernel_rfl) rfl (fun K hK => ?_)
          go_simp
          have R113 := R112.alloc 26 #[.bool false, .slice none 0 0, .bool false, .slice none 0 0] (g := w112.heap.size) rfl rfl
          have s113 := And.intro (R113.cell 3 0 rfl rfl) (And.intro (R113.cell 3 1 rfl rfl) (And.intro (R113.cell 3 2 rfl rfl) (And.intro (R113.cell 3 3 rfl rfl) (And.intro (R113.cell 2 0 rfl rfl) (And.intro (R113.cell 2 1 rfl rfl) (And.intro (R113.cell 2 2 rfl rfl) (R113.cell 2 3 rfl rfl)))))))
          refine hK.out _ _ (fun _ => s113) ?_
          clear hK K
          try simp only [Act.put, List.setIfInBounds_toArray, List.set_cons_zero, List.set_cons_succ]
          generalize (w112.alloc (.cells #[.bool false, .slice none 0 0, .bool false, .slice none 0 0] 26)) = w113 at *
          refine wpAnyL_one (i := 6) (by kernel_rfl) rfl (fun K hK => ?_)
          have fc0 := R113.cell 0 0 rfl rfl
          have ff0 := R113.frozen 0 0 rfl
          have fc1 := R113.cell 0 1 rfl rfl
          have ff1 := R113.frozen 0 1 rfl
          have fc2 := R113.cell 0 2 rfl rfl
          have ff2 := R113.frozen 0 2 rfl
          have fc3 := R113.cell 0 3 rfl rfl
          have ff3 := R113.frozen 0 3 rfl
          go_simp
          clear fc0 ff0 fc1 ff1 fc2 ff2 fc3 ff3
          have R114 := R113.st4 0 (.bool b_ce) (.slice A_ce n_ce n_ce) (.bool b_zed) (.slice A_zed n_zed c_zed) rfl rfl rfl rfl rfl
          have s114 := And.intro (R114.cell 3 0 rfl rfl) (And.intro (R114.cell 3 1 rfl rfl) (And.intro (R114.cell 3 2 rfl rfl) (And.intro (R114.cell 3 3 rfl rfl) (And.intro (R114.cell 2 0 rfl rfl) (And.intro (R114.cell 2 1 rfl rfl) (And.intro (R114.cell 2 2 rfl rfl) (R114.cell 2 3 rfl rfl)))))))
          refine hK.out _ _ (fun _ => s114) ?_
          clear hK K
          try simp only [Act.put, List.setIfInBounds_toArray, List.set_cons_zero, List.set_cons_succ]
          generalize ((((w113.setCell ⟨w112.heap.size, 0, none⟩ (.bool b_ce)).setCell ⟨w112.heap.size, 1, none⟩ (.slice A_ce n_ce n_ce)).setCell ⟨w112.heap.size, 2, none⟩ (.bool b_zed)).setCell ⟨w112.heap.size, 3, none⟩ (.slice A_zed n_zed c_zed)) = w114 at *
          refine wpAnyL_done (by kernel_rfl) ?_ _
          go_wp2_with fail
          go_meet
          exact ⟨_, _, _, _, rfl, R114⟩
        · go_simp
          have R115 := R111.alloc 26 #[.bool false, .slice none 0 0, .bool false, .slice none 0 0] (g := w111.heap.size) rfl rfl
          have s115 := And.intro (R115.cell 3 0 rfl rfl) (And.intro (R115.cell 3 1 rfl rfl) (And.intro (R115.cell 3 2 rfl rfl) (And.intro (R115.cell 3 3 rfl rfl) (And.intro (R115.cell 2 0 rfl rfl) (And.intro (R115.cell 2 1 rfl rfl) (And.intro (R115.cell 2 2 rfl rfl) (R115.cell 2 3 rfl rfl)))))))
          refine hK.out _ _ (fun _ => s115) ?_
          clear hK K
          try simp only [Act.put, List.setIfInBounds_toArray, List.set_cons_zero, List.set_cons_succ]
          generalize (w111.alloc (.cells #[.bool false, .slice none 0 0, .bool false, .slice none 0 0] 26)) = w115 at *
          refine wpAnyL_one (i := 1) (by kernel_rfl) rfl (fun K hK => ?_)
          go_simp
          refine (qceil (k := 4) (R115.z 4 rfl) (R115.z 3 rfl) (by decide) (by decide) (by decide) (by decide) Ha.out).mono ?_; rintro e w116 ⟨b_ce, A_ce, n_ce, rfl, z_ce, hb116⟩
          have R116 := ((R115.below hb116).add z_ce)
          have s116 := And.intro (R116.cell 3 0 rfl rfl) (And.intro (R116.cell 3 1 rfl rfl) (And.intro (R116.cell 3 2 rfl rfl) (And.intro (R116.cell 3 3 rfl rfl) (And.intro (R116.cell 2 0 rfl rfl) (And.intro (R116.cell 2 1 rfl rfl) (And.intro (R116.cell 2 2 rfl rfl) (R116.cell 2 3 rfl rfl)))))))
          go_wp2_with fail
          refine hK.out _ _ (fun _ => s116) ?_
          clear hK K
          try simp only [Act.put, List.setIfInBounds_toArray, List.set_cons_zero, List.set_cons_succ]
          refine wpAnyL_take (i := 4) (v := ?_) rfl (by kernel_rfl) (by kernel_rfl) (by kernel_rfl) (by kernel_rfl) (by kernel_rfl) (fun _ _ _ h => h) (Or.inl ⟨by kernel_rfl, ?_⟩) s116 ?_
          rotate_left
          · rintro w' ⟨h1, h2, h3, h4, h5, h6, h7, h8⟩; go_simp; (try with_reducible rfl)
          try simp only [Act.put, List.setIfInBounds_toArray, List.set_cons_zero, List.set_cons_succ]
          refine wpAnyL_one (i := 6) (by kernel_rfl) rfl (fun K hK => ?_)
          have fc0 := R116.cell 0 0 rfl rfl
          have ff0 := R116.frozen 0 0 rfl
          have fc1 := R116.cell 0 1 rfl rfl
          have ff1 := R116.frozen 0 1 rfl
          have fc2 := R116.cell 0 2 rfl rfl
          have ff2 := R116.frozen 0 2 rfl
          have fc3 := R116.cell 0 3 rfl rfl
          have ff3 := R116.frozen 0 3 rfl
          go_simp
          clear fc0 ff0 fc1 ff1 fc2 ff2 fc3 ff3
          have R117 := R116.st4 0 (.bool b_ce) (.slice A_ce n_ce n_ce) (.bool b_zed) (.slice A_zed n_zed c_zed) rfl rfl rfl rfl rfl
          have s117 := And.intro (R117.cell 3 0 rfl rfl) (And.intro (R117.cell 3 1 rfl rfl) (And.intro (R117.cell 3 2 rfl rfl) (And.intro (R117.cell 3 3 rfl rfl) (And.intro (R117.cell 2 0 rfl rfl) (And.intro (R117.cell 2 1 rfl rfl) (And.intro (R117.cell 2 2 rfl rfl) (R117.cell 2 3 rfl rfl)))))))
          refine hK.out _ _ (fun _ => s117) ?_
          clear hK K
          try simp only [Act.put, List.setIfInBounds_toArray, List.set_cons_zero, List.set_cons_succ]
          generalize ((((w116.setCell ⟨w111.heap.size, 0, none⟩ (.bool b_ce)).setCell ⟨w111.heap.size, 1, none⟩ (.slice A_ce n_ce n_ce)).setCell ⟨w111.heap.size, 2, none⟩ (.bool b_zed)).setCell ⟨w111.heap.size, 3, none⟩ (.slice A_zed n_zed c_zed)) = w117 at *
          refine wpAnyL_done (by kernel_rfl) ?_ _
          go_wp2_with fail
          go_meet
          exact ⟨_, _, _, _, rfl, R117⟩
      case rest =>
        obtain ⟨g_c, b_ce, A_ce, n_ce, rfl, R217⟩ := hcut
        have k218ze0 := R217.cell 2 0 rfl rfl
        have k218ze1 := R217.cell 2 1 rfl rfl
        have k218ze2 := R217.cell 2 2 rfl rfl
        have k218ze3 := R217.cell 2 3 rfl rfl
        have k218a0 := R217.cell 3 0 rfl rfl
        have k218a1 := R217.cell 3 1 rfl rfl
        have k218a2 := R217.cell 3 2 rfl rfl
        have k218a3 := R217.cell 3 3 rfl rfl
        go_wp2_with fail
        clear k218ze0 k218ze1 k218ze2 k218ze3 k218a0 k218a1 k218a2 k218a3
        refine (qsub (k := 4) (R217.z 3 rfl) (R217.z 2 rfl) (R217.z 5 rfl) (R217.z 4 rfl) (by decide) (by decide) (by decide) (by decide) (by decide) (by decide) (qv_self (0)) Ha.out).mono ?_; rintro e w218 ⟨b_min, A_min, n_min, b_mid, A_mid, n_mid, rfl, z_min, z_mid, hb218⟩
        have R218 := ((((R217.below hb218).add z_min).add z_mid).alloc 26 #[.bool b_min, .slice A_min n_min n_min, .bool b_mid, .slice A_mid n_mid n_mid] (g := w218.heap.size) rfl rfl)
        clear z_min z_mid hb218 R217
        go_wp2_with fail
        refine (qof 1 1 ⟨by decide, by decide⟩ ⟨by decide, by decide⟩ _ qone_of (by decide : decide ((1 : Int) ≠ 0) = true)).mono ?_; rintro e w219 ⟨b_onen, A_onen, n_onen, b_oned, A_oned, n_oned, rfl, z_onen, z_oned, hb219⟩
        have R219 := ((((R218.below hb219).add z_onen).add z_oned).alloc 26 #[.bool b_onen, .slice A_onen n_onen n_onen, .bool b_oned, .slice A_oned n_oned n_oned] (g := w219.heap.size) rfl rfl)
        clear z_onen z_oned hb219 R218
        go_wp2_with fail
        have D220 := R219.drew
        have s220 := And.intro (D220.cell 5 0 rfl rfl) (And.intro (D220.cell 5 1 rfl rfl) (And.intro (D220.cell 5 2 rfl rfl) (And.intro (D220.cell 5 3 rfl rfl) (And.intro (D220.cell 4 0 rfl rfl) (And.intro (D220.cell 4 1 rfl rfl) (And.intro (D220.cell 4 2 rfl rfl) (D220.cell 4 3 rfl rfl)))))))
        refine wp_region_late [] (fun w' => w'.cell? ⟨w.heap.size, 0, none⟩ = some (.bool ba) ∧ w'.cell? ⟨w.heap.size, 1, none⟩ = some (.slice Aa na ca) ∧ w'.cell? ⟨w.heap.size, 2, none⟩ = some (.bool ba') ∧ w'.cell? ⟨w.heap.size, 3, none⟩ = some (.slice Aa' na' ca') ∧ w'.cell? ⟨w3.heap.size, 0, none⟩ = some (.bool b_zen) ∧ w'.cell? ⟨w3.heap.size, 1, none⟩ = some (.slice A_zen n_zen c_zen) ∧ w'.cell? ⟨w3.heap.size, 2, none⟩ = some (.bool b_zed) ∧ w'.cell? ⟨w3.heap.size, 3, none⟩ = some (.slice A_zed n_zed c_zed)) (by kernel_rfl) ?_
        refine wpAnyL_take (i := 0) (v := ?_) rfl (by kernel_rfl) (by kernel_rfl) (by kernel_rfl) (by kernel_rfl) (by kernel_rfl) (fun _ _ _ h => h) (Or.inl ⟨by kernel_rfl, ?_⟩) s220 ?_
        rotate_left
        · rintro w' ⟨h1, h2, h3, h4, h5, h6, h7, h8⟩; go_simp; (try with_reducible rfl)
        try simp only [Act.put, List.getElem_toArray, List.getElem_cons_succ, List.getElem_cons_zero, List.setIfInBounds_toArray, List.set_cons_zero, List.set_cons_succ]
        refine wpAnyL_take (i := 2) (v := ?_) rfl (by kernel_rfl) (by kernel_rfl) (by kernel_rfl) (by kernel_rfl) (by kernel_rfl) (fun _ _ _ h => h) (Or.inl ⟨by kernel_rfl, ?_⟩) s220 ?_
        rotate_left
        · rintro w' ⟨h1, h2, h3, h4, h5, h6, h7, h8⟩; go_simp; (try with_reducible rfl)
        try simp only [Act.put, List.getElem_toArray, List.getElem_cons_succ, List.getElem_cons_zero, List.setIfInBounds_toArray, List.set_cons_zero, List.set_cons_succ]
        refine wpAnyL_one (i := 1) (by kernel_rfl) rfl (fun K hK => ?_)
        go_simp
        refine (qfrac_ (k := 4) (D220.z 9 rfl) (D220.z 8 rfl) (by decide) (by decide) (by decide) (by decide) Ha.out).mono ?_; rintro e w221 ⟨b_frn, A_frn, n_frn, b_frd, A_frd, n_frd, rfl, z_frn, z_frd, hb221⟩
        have R221 := (((D220.below hb221).add z_frn).add z_frd)
        have s221 := And.intro (R221.cell 5 0 rfl rfl) (And.intro (R221.cell 5 1 rfl rfl) (And.intro (R221.cell 5 2 rfl rfl) (And.intro (R221.cell 5 3 rfl rfl) (And.intro (R221.cell 4 0 rfl rfl) (And.intro (R221.cell 4 1 rfl rfl) (And.intro (R221.cell 4 2 rfl rfl) (R221.cell 4 3 rfl rfl)))))))
        clear z_frn z_frd hb221 D220 s220
        go_wp2_with fail
        refine hK.out _ _ (fun _ => s221) ?_
        clear hK K
        try simp only [Act.put, List.getElem_toArray, List.getElem_cons_succ, List.getElem_cons_zero, List.setIfInBounds_toArray, List.set_cons_zero, List.set_cons_succ]
        refine wpAnyL_one (i := 3) (by kernel_rfl) rfl (fun K hK => ?_)
        go_simp
        refine (qcmp_ (k := 9) (R221.z 1 rfl) (R221.z 0 rfl) (R221.z 9 rfl) (R221.z 8 rfl) (by decide) (by decide) (by decide) (by decide) (by decide) (by decide) (qv_self ((qfrac ra))) (qv_self (0)) HC.out).mono ?_; rintro e w222 ⟨rfl, hb222⟩
        have R222 := (R221.below hb222)
        have s222 := And.intro (R222.cell 5 0 rfl rfl) (And.intro (R222.cell 5 1 rfl rfl) (And.intro (R222.cell 5 2 rfl rfl) (And.intro (R222.cell 5 3 rfl rfl) (And.intro (R222.cell 4 0 rfl rfl) (And.intro (R222.cell 4 1 rfl rfl) (And.intro (R222.cell 4 2 rfl rfl) (R222.cell 4 3 rfl rfl)))))))
        clear hb222 R221 s221
        go_wp2_with fail
        refine hK.out _ _ (fun _ => s222) ?_
        clear hK K
        try simp only [Act.put, List.getElem_toArray, List.getElem_cons_succ, List.getElem_cons_zero, List.setIfInBounds_toArray, List.set_cons_zero, List.set_cons_succ]
        refine wpAnyL_take (i := 4) (v := ?_) rfl (by kernel_rfl) (by kernel_rfl) (by kernel_rfl) (by kernel_rfl) (by kernel_rfl) (fun _ _ _ h => h) (Or.inl ⟨by kernel_rfl, ?_⟩) s222 ?_
        rotate_left
        · rintro w' ⟨h1, h2, h3, h4, h5, h6, h7, h8⟩; go_simp; (try with_reducible rfl)
        try simp only [Act.put, List.getElem_toArray, List.getElem_cons_succ, List.getElem_cons_zero, List.setIfInBounds_toArray, List.set_cons_zero, List.set_cons_succ]
        refine wpAnyL_one (i := 5) (by kernel_rfl) rfl (fun K hK => ?_)
        go_simp
        refine hK.out _ _ (fun _ => s222) ?_
        clear hK K
        try simp only [Act.put, List.getElem_toArray, List.getElem_cons_succ, List.getElem_cons_zero, List.setIfInBounds_toArray, List.set_cons_zero, List.set_cons_succ]
        refine wpAnyL_done (by kernel_rfl) ?_ _
        go_upto_region 11 with (fail)
        go_cut [10] (fun p_ wx => ∃ (g_g : Nat) (b_gl : Bool) (A_gl : Option Addr) (n_gl : Nat), p_ = .pointer (some ⟨g_g, 0, none⟩) ∧ Env w wx [(g_g, 26, #[.bool b_gl, .slice A_gl n_gl n_gl, .bool b_zed, .slice A_zed n_zed c_zed]), (w219.heap.size, 26, #[.bool b_onen, .slice A_onen n_onen n_onen, .bool b_oned, .slice A_oned n_oned n_oned]), (w218.heap.size, 26, #[.bool b_min, .slice A_min n_min n_min, .bool b_mid, .slice A_mid n_mid n_mid]), (g_c, 26, #[.bool b_ce, .slice A_ce n_ce n_ce, .bool b_zed, .slice A_zed n_zed c_zed]), (g_f, 26, #[.bool b_fl, .slice A_fl n_fl n_fl, .bool b_zed, .slice A_zed n_zed c_zed]), (w3.heap.size, 26, #[.bool b_zen, .slice A_zen n_zen c_zen, .bool b_zed, .slice A_zed n_zed c_zed]), (w.heap.size, 26, #[.bool ba, .slice Aa na ca, .bool ba', .slice Aa' na' ca'])] [⟨b_gl, A_gl, n_gl, n_gl, (0 - ra).floor, 9, true⟩, ⟨b_frd, A_frd, n_frd, n_frd, (((((qfrac ra) : Rat)).den : Nat) : Int), 9, true⟩, ⟨b_frn, A_frn, n_frn, n_frn, (((qfrac ra) : Rat)).num, 9, true⟩, ⟨b_oned, A_oned, n_oned, n_oned, ((((1 : Rat)).den : Nat) : Int), 2, true⟩, ⟨b_onen, A_onen, n_onen, n_onen, ((1 : Rat)).num, 2, true⟩, ⟨b_mid, A_mid, n_mid, n_mid, (((((0 - ra) : Rat)).den : Nat) : Int), 9, true⟩, ⟨b_min, A_min, n_min, n_min, (((0 - ra) : Rat)).num, 9, true⟩, ⟨b_ce, A_ce, n_ce, n_ce, ra.ceil, 4, true⟩, ⟨b_fl, A_fl, n_fl, n_fl, ra.floor, 4, true⟩, ⟨b_zed, A_zed, n_zed, c_zed, ((((0 : Rat)).den : Nat) : Int), 1, true⟩, ⟨b_zen, A_zen, n_zen, c_zen, ((0 : Rat)).num, 1, true⟩, ⟨ba', Aa', na', ca', ya, 4, false⟩, ⟨ba, Aa, na, ca, xa, 4, false⟩])
        case first =>
          have R223 := R222.drew
          refine wp_region_late [] (fun w' => w'.cell? ⟨w218.heap.size, 0, none⟩ = some (.bool b_min) ∧ w'.cell? ⟨w218.heap.size, 1, none⟩ = some (.slice A_min n_min n_min) ∧ w'.cell? ⟨w218.heap.size, 2, none⟩ = some (.bool b_mid) ∧ w'.cell? ⟨w218.heap.size, 3, none⟩ = some (.slice A_mid n_mid n_mid) ∧ w'.cell? ⟨w3.heap.size, 0, none⟩ = some (.bool b_zen) ∧ w'.cell? ⟨w3.heap.size, 1, none⟩ = some (.slice A_zen n_zen c_zen) ∧ w'.cell? ⟨w3.heap.size, 2, none⟩ = some (.bool b_zed) ∧ w'.cell? ⟨w3.heap.size, 3, none⟩ = some (.slice A_zed n_zed c_zed)) (by kernel_rfl) ?_
          generalize hgw : World.drew _ = w223 at *
          clear hgw
          have s223 := And.intro (R223.cell 1 0 rfl rfl) (And.intro (R223.cell 1 1 rfl rfl) (And.intro (R223.cell 1 2 rfl rfl) (And.intro (R223.cell 1 3 rfl rfl) (And.intro (R223.cell 4 0 rfl rfl) (And.intro (R223.cell 4 1 rfl rfl) (And.intro (R223.cell 4 2 rfl rfl) (R223.cell 4 3 rfl rfl)))))))
          refine wpAnyL_take (i := 0) (v := ?_) rfl (by kernel_rfl) (by kernel_rfl) (by kernel_rfl) (by kernel_rfl) (by kernel_rfl) (fun _ _ _ h => h) (Or.inl ⟨by kernel_rfl, ?_⟩) s223 ?_
          rotate_left
          · rintro w' ⟨h1, h2, h3, h4, h5, h6, h7, h8⟩; go_simp; (try with_reducible rfl)
          try simp only [Act.put, List.setIfInBounds_toArray, List.set_cons_zero, List.set_cons_succ]
          refine wpAnyL_take (i := 2) (v := ?_) rfl (by kernel_rfl) (by kernel_rfl) (by kernel_rfl) (by kernel_rfl) (by kernel_rfl) (fun _ _ _ h => h) (Or.inl ⟨by kernel_rfl, ?_⟩) s223 ?_
          rotate_left
          · rintro w' ⟨h1, h2, h3, h4, h5, h6, h7, h8⟩; go_simp; (try with_reducible rfl)
          try simp only [Act.put, List.setIfInBounds_toArray, List.set_cons_zero, List.set_cons_succ]
          refine wpAnyL_take (i := 3) (v := ?_) rfl (by kernel_rfl) (by kernel_rfl) (by kernel_rfl) (by kernel_rfl) (by kernel_rfl) (fun _ _ _ h => h) (Or.inl ⟨by kernel_rfl, ?_⟩) s223 ?_
          rotate_left
          · rintro w' ⟨h1, h2, h3, h4, h5, h6, h7, h8⟩; go_simp; (try with_reducible rfl)
          try simp only [Act.put, List.setIfInBounds_toArray, List.set_cons_zero, List.set_cons_succ]
          refine wpAnyL_all (rs := [1, 5]) (by kernel_rfl) (by simp) (StepsL.cons (i := 1) rfl (fun K hK => ?_) (StepsL.cons (i := 5) rfl (fun K hK => ?_) StepsL.nil))
          · go_simp
            refine (qfloor (k := 9) (R223.z 5 rfl) (R223.z 4 rfl) (by decide) (by decide) (by decide) (by decide) (qv_self ((0 - ra)))).mono ?_; rintro e w224 ⟨b_gl, A_gl, n_gl, rfl, z_gl, hb224⟩
            have R224 := ((R223.below hb224).add z_gl)
            have s224 := And.intro (R224.cell 1 0 rfl rfl) (And.intro (R224.cell 1 1 rfl rfl) (And.intro (R224.cell 1 2 rfl rfl) (And.intro (R224.cell 1 3 rfl rfl) (And.intro (R224.cell 4 0 rfl rfl) (And.intro (R224.cell 4 1 rfl rfl) (And.intro (R224.cell 4 2 rfl rfl) (R224.cell 4 3 rfl rfl)))))))
            go_wp2_with fail
            refine hK.out _ _ (fun _ => s224) ?_
            clear hK K
            try simp only [Act.put, List.setIfInBounds_toArray, List.set_cons_zero, List.set_cons_succ]
            refine wpAnyL_take (i := 4) (v := ?_) rfl (by kernel_rfl) (by kernel_rfl) (by kernel_rfl) (by kernel_rfl) (by kernel_rfl) (fun _ _ _ h => h) (Or.inl ⟨by kernel_rfl, ?_⟩) s224 ?_
            rotate_left
            · rintro w' ⟨h1, h2, h3, h4, h5, h6, h7, h8⟩; go_simp; (try with_reducible rfl)
            try simp only [Act.put, List.setIfInBounds_toArray, List.set_cons_zero, List.set_cons_succ]
            refine wpAnyL_one (i := 5) (by kernel_rfl) rfl (fun K hK => ?_)
            go_simp
            have R225 := R224.alloc 26 #[.bool false, .slice none 0 0, .bool false, .slice none 0 0] (g := w224.heap.size) rfl rfl
            have s225 := And.intro (R225.cell 2 0 rfl rfl) (And.intro (R225.cell 2 1 rfl rfl) (And.intro (R225.cell 2 2 rfl rfl) (And.intro (R225.cell 2 3 rfl rfl) (And.intro (R225.cell 5 0 rfl rfl) (And.intro (R225.cell 5 1 rfl rfl) (And.intro (R225.cell 5 2 rfl rfl) (R225.cell 5 3 rfl rfl)))))))
            refine hK.out _ _ (fun _ => s225) ?_
            clear hK K
            try simp only [Act.put, List.setIfInBounds_toArray, List.set_cons_zero, List.set_cons_succ]
            generalize (w224.alloc (.cells #[.bool false, .slice none 0 0, .bool false, .slice none 0 0] 26)) = w225 at *
            refine wpAnyL_one (i := 6) (by kernel_rfl) rfl (fun K hK => ?_)
            have fc0 := R225.cell 0 0 rfl rfl
            have ff0 := R225.frozen 0 0 rfl
            have fc1 := R225.cell 0 1 rfl rfl
            have ff1 := R225.frozen 0 1 rfl
            have fc2 := R225.cell 0 2 rfl rfl
            have ff2 := R225.frozen 0 2 rfl
            have fc3 := R225.cell 0 3 rfl rfl
            have ff3 := R225.frozen 0 3 rfl
            go_simp
            clear fc0 ff0 fc1 ff1 fc2 ff2 fc3 ff3
            have R226 := R225.st4 0 (.bool b_gl) (.slice A_gl n_gl n_gl) (.bool b_zed) (.slice A_zed n_zed c_zed) rfl rfl rfl rfl rfl
            have s226 := And.intro (R226.cell 2 0 rfl rfl) (And.intro (R226.cell 2 1 rfl rfl) (And.intro (R226.cell 2 2 rfl rfl) (And.intro (R226.cell 2 3 rfl rfl) (And.intro (R226.cell 5 0 rfl rfl) (And.intro (R226.cell 5 1 rfl rfl) (And.intro (R226.cell 5 2 rfl rfl) (R226.cell 5 3 rfl rfl)))))))
            refine hK.out _ _ (fun _ => s226) ?_
            clear hK K
            try simp only [Act.put, List.setIfInBounds_toArray, List.set_cons_zero, List.set_cons_succ]
            generalize ((((w225.setCell ⟨w224.heap.size, 0, none⟩ (.bool b_gl)).setCell ⟨w224.heap.size, 1, none⟩ (.slice A_gl n_gl n_gl)).setCell ⟨w224.heap.size, 2, none⟩ (.bool b_zed)).setCell ⟨w224.heap.size, 3, none⟩ (.slice A_zed n_zed c_zed)) = w226 at *
            refine wpAnyL_done (by kernel_rfl) ?_ _
            go_wp2_with fail
            go_meet
            exact ⟨_, _, _, _, rfl, R226⟩
          · go_simp
            have R227 := R223.alloc 26 #[.bool false, .slice none 0 0, .bool false, .slice none 0 0] (g := w223.heap.size) rfl rfl
            have s227 := And.intro (R227.cell 2 0 rfl rfl) (And.intro (R227.cell 2 1 rfl rfl) (And.intro (R227.cell 2 2 rfl rfl) (And.intro (R227.cell 2 3 rfl rfl) (And.intro (R227.cell 5 0 rfl rfl) (And.intro (R227.cell 5 1 rfl rfl) (And.intro (R227.cell 5 2 rfl rfl) (R227.cell 5 3 rfl rfl)))))))
            refine hK.out _ _ (fun _ => s227) ?_
            clear hK K
            try simp only [Act.put, List.setIfInBounds_toArray, List.set_cons_zero, List.set_cons_succ]
            generalize (w223.alloc (.cells #[.bool false, .slice none 0 0, .bool false, .slice none 0 0] 26)) = w227 at *
            refine wpAnyL_one (i := 1) (by kernel_rfl) rfl (fun K hK => ?_)
            go_simp
            refine (qfloor (k := 9) (R227.z 5 rfl) (R227.z 4 rfl) (by decide) (by decide) (by decide) (by decide) (qv_self ((0 - ra)))).mono ?_; rintro e w228 ⟨b_gl, A_gl, n_gl, rfl, z_gl, hb228⟩
            have R228 := ((R227.below hb228).add z_gl)
            have s228 := And.intro (R228.cell 2 0 rfl rfl) (And.intro (R228.cell 2 1 rfl rfl) (And.intro (R228.cell 2 2 rfl rfl) (And.intro (R228.cell 2 3 rfl rfl) (And.intro (R228.cell 5 0 rfl rfl) (And.intro (R228.cell 5 1 rfl rfl) (And.intro (R228.cell 5 2 rfl rfl) (R228.cell 5 3 rfl rfl)))))))
            go_wp2_with fail
            refine hK.out _ _ (fun _ => s228) ?_
            clear hK K
            try simp only [Act.put, List.setIfInBounds_toArray, List.set_cons_zero, List.set_cons_succ]
            refine wpAnyL_take (i := 4) (v := ?_) rfl (by kernel_rfl) (by kernel_rfl) (by kernel_rfl) (by kernel_rfl) (by kernel_rfl) (fun _ _ _ h => h) (Or.inl ⟨by kernel_rfl, ?_⟩) s228 ?_
            rotate_left
            · rintro w' ⟨h1, h2, h3, h4, h5, h6, h7, h8⟩; go_simp; (try with_reducible rfl)
            try simp only [Act.put, List.setIfInBounds_toArray, List.set_cons_zero, List.set_cons_succ]
            refine wpAnyL_one (i := 6) (by kernel_rfl) rfl (fun K hK => ?_)
            have fc0 := R228.cell 0 0 rfl rfl
            have ff0 := R228.frozen 0 0 rfl
            have fc1 := R228.cell 0 1 rfl rfl
            have ff1 := R228.frozen 0 1 rfl
            have fc2 := R228.cell 0 2 rfl rfl
            have ff2 := R228.frozen 0 2 rfl
            have fc3 := R228.cell 0 3 rfl rfl
            have ff3 := R228.frozen 0 3 rfl
            go_simp
            clear fc0 ff0 fc1 ff1 fc2 ff2 fc3 ff3
            have R229 := R228.st4 0 (.bool b_gl) (.slice A_gl n_gl n_gl) (.bool b_zed) (.slice A_zed n_zed c_zed) rfl rfl rfl rfl rfl
            have s229 := And.intro (R229.cell 2 0 rfl rfl) (And.intro (R229.cell 2 1 rfl rfl) (And.intro (R229.cell 2 2 rfl rfl) (And.intro (R229.cell 2 3 rfl rfl) (And.intro (R229.cell 5 0 rfl rfl) (And.intro (R229.cell 5 1 rfl rfl) (And.intro (R229.cell 5 2 rfl rfl) (R229.cell 5 3 rfl rfl)))))))
            refine hK.out _ _ (fun _ => s229) ?_
            clear hK K
            try simp only [Act.put, List.setIfInBounds_toArray, List.set_cons_zero, List.set_cons_succ]
            generalize ((((w228.setCell ⟨w223.heap.size, 0, none⟩ (.bool b_gl)).setCell ⟨w223.heap.size, 1, none⟩ (.slice A_gl n_gl n_gl)).setCell ⟨w223.heap.size, 2, none⟩ (.bool b_zed)).setCell ⟨w223.heap.size, 3, none⟩ (.slice A_zed n_zed c_zed)) = w229 at *
            refine wpAnyL_done (by kernel_rfl) ?_ _
            go_wp2_with fail
            go_meet
            exact ⟨_, _, _, _, rfl, R229⟩
        case rest =>
          obtain ⟨g_g, b_gl, A_gl, n_gl, rfl, R329⟩ := hcut
          go_wp2_with fail
          have D330 := R329.drew
          have s330 := And.intro (D330.cell 5 0 rfl rfl) (And.intro (D330.cell 5 1 rfl rfl) (And.intro (D330.cell 5 2 rfl rfl) (And.intro (D330.cell 5 3 rfl rfl) (And.intro (D330.cell 3 0 rfl rfl) (And.intro (D330.cell 3 1 rfl rfl) (And.intro (D330.cell 3 2 rfl rfl) (And.intro (D330.cell 3 3 rfl rfl) (And.intro (D330.cell 0 0 rfl rfl) (And.intro (D330.cell 0 1 rfl rfl) (And.intro (D330.cell 0 2 rfl rfl) (And.intro (D330.cell 0 3 rfl rfl) (And.intro (D330.cell 4 0 rfl rfl) (And.intro (D330.cell 4 1 rfl rfl) (And.intro (D330.cell 4 2 rfl rfl) (And.intro (D330.cell 4 3 rfl rfl) (And.intro (D330.cell 6 0 rfl rfl) (And.intro (D330.cell 6 1 rfl rfl) (And.intro (D330.cell 6 2 rfl rfl) (D330.cell 6 3 rfl rfl)))))))))))))))))))
          refine wp_region_late [] (fun w' => w'.cell? ⟨w3.heap.size, 0, none⟩ = some (.bool b_zen) ∧ w'.cell? ⟨w3.heap.size, 1, none⟩ = some (.slice A_zen n_zen c_zen) ∧ w'.cell? ⟨w3.heap.size, 2, none⟩ = some (.bool b_zed) ∧ w'.cell? ⟨w3.heap.size, 3, none⟩ = some (.slice A_zed n_zed c_zed) ∧ w'.cell? ⟨g_c, 0, none⟩ = some (.bool b_ce) ∧ w'.cell? ⟨g_c, 1, none⟩ = some (.slice A_ce n_ce n_ce) ∧ w'.cell? ⟨g_c, 2, none⟩ = some (.bool b_zed) ∧ w'.cell? ⟨g_c, 3, none⟩ = some (.slice A_zed n_zed c_zed) ∧ w'.cell? ⟨g_g, 0, none⟩ = some (.bool b_gl) ∧ w'.cell? ⟨g_g, 1, none⟩ = some (.slice A_gl n_gl n_gl) ∧ w'.cell? ⟨g_g, 2, none⟩ = some (.bool b_zed) ∧ w'.cell? ⟨g_g, 3, none⟩ = some (.slice A_zed n_zed c_zed) ∧ w'.cell? ⟨g_f, 0, none⟩ = some (.bool b_fl) ∧ w'.cell? ⟨g_f, 1, none⟩ = some (.slice A_fl n_fl n_fl) ∧ w'.cell? ⟨g_f, 2, none⟩ = some (.bool b_zed) ∧ w'.cell? ⟨g_f, 3, none⟩ = some (.slice A_zed n_zed c_zed) ∧ w'.cell? ⟨w.heap.size, 0, none⟩ = some (.bool ba) ∧ w'.cell? ⟨w.heap.size, 1, none⟩ = some (.slice Aa na ca) ∧ w'.cell? ⟨w.heap.size, 2, none⟩ = some (.bool ba') ∧ w'.cell? ⟨w.heap.size, 3, none⟩ = some (.slice Aa' na' ca')) (by kernel_rfl) ?_
          refine wpAnyL_take (i := 0) (v := ?_) rfl (by kernel_rfl) (by kernel_rfl) (by kernel_rfl) (by kernel_rfl) (by kernel_rfl) (fun _ _ _ h => h) (Or.inl ⟨by kernel_rfl, ?_⟩) s330 ?_
          rotate_left
          · rintro w' ⟨h1, h2, h3, h4, h5, h6, h7, h8, h9, h10, h11, h12, h13, h14, h15, h16, h17, h18, h19, h20⟩; go_simp; (try with_reducible rfl)
          try simp only [Act.put, List.getElem_toArray, List.getElem_cons_succ, List.getElem_cons_zero, List.setIfInBounds_toArray, List.set_cons_zero, List.set_cons_succ]
          refine wpAnyL_take (i := 1) (v := ?_) rfl (by kernel_rfl) (by kernel_rfl) (by kernel_rfl) (by kernel_rfl) (by kernel_rfl) (fun _ _ _ h => h) (Or.inl ⟨by kernel_rfl, ?_⟩) s330 ?_
          rotate_left
          · rintro w' ⟨h1, h2, h3, h4, h5, h6, h7, h8, h9, h10, h11, h12, h13, h14, h15, h16, h17, h18, h19, h20⟩; go_simp; (try with_reducible rfl)
          try simp only [Act.put, List.getElem_toArray, List.getElem_cons_succ, List.getElem_cons_zero, List.setIfInBounds_toArray, List.set_cons_zero, List.set_cons_succ]
          refine wpAnyL_take (i := 3) (v := ?_) rfl (by kernel_rfl) (by kernel_rfl) (by kernel_rfl) (by kernel_rfl) (by kernel_rfl) (fun _ _ _ h => h) (Or.inl ⟨by kernel_rfl, ?_⟩) s330 ?_
          rotate_left
          · rintro w' ⟨h1, h2, h3, h4, h5, h6, h7, h8, h9, h10, h11, h12, h13, h14, h15, h16, h17, h18, h19, h20⟩; go_simp; (try with_reducible rfl)
          try simp only [Act.put, List.getElem_toArray, List.getElem_cons_succ, List.getElem_cons_zero, List.setIfInBounds_toArray, List.set_cons_zero, List.set_cons_succ]
          refine wpAnyL_one (i := 2) (by kernel_rfl) rfl (fun K hK => ?_)
          go_simp
          refine (qsub (k := 4) (D330.z 10 rfl) (D330.z 9 rfl) (D330.z 7 rfl) (D330.z 9 rfl) (by decide) (by decide) (by decide) (by decide) (by decide) (by decide) (qv_self (0)) (qv_int0 (ra.ceil))).mono ?_; rintro e w331 ⟨b_zcn, A_zcn, n_zcn, b_zcd, A_zcd, n_zcd, rfl, z_zcn, z_zcd, hb331⟩
          have R331 := (((D330.below hb331).add z_zcn).add z_zcd)
          have s331 := And.intro (R331.cell 5 0 rfl rfl) (And.intro (R331.cell 5 1 rfl rfl) (And.intro (R331.cell 5 2 rfl rfl) (And.intro (R331.cell 5 3 rfl rfl) (And.intro (R331.cell 3 0 rfl rfl) (And.intro (R331.cell 3 1 rfl rfl) (And.intro (R331.cell 3 2 rfl rfl) (And.intro (R331.cell 3 3 rfl rfl) (And.intro (R331.cell 0 0 rfl rfl) (And.intro (R331.cell 0 1 rfl rfl) (And.intro (R331.cell 0 2 rfl rfl) (And.intro (R331.cell 0 3 rfl rfl) (And.intro (R331.cell 4 0 rfl rfl) (And.intro (R331.cell 4 1 rfl rfl) (And.intro (R331.cell 4 2 rfl rfl) (And.intro (R331.cell 4 3 rfl rfl) (And.intro (R331.cell 6 0 rfl rfl) (And.intro (R331.cell 6 1 rfl rfl) (And.intro (R331.cell 6 2 rfl rfl) (R331.cell 6 3 rfl rfl)))))))))))))))))))
          clear z_zcn z_zcd hb331 D330 s330
          go_wp2_with fail
          refine hK.out _ _ (fun _ => s331) ?_
          clear hK K
          try simp only [Act.put, List.getElem_toArray, List.getElem_cons_succ, List.getElem_cons_zero, List.setIfInBounds_toArray, List.set_cons_zero, List.set_cons_succ]
          refine wpAnyL_one (i := 4) (by kernel_rfl) rfl (fun K hK => ?_)
          go_simp
          refine (qplain (K := 9) (R331.z 2 rfl) (R331.z 11 rfl) (by decide) (by decide) (by decide) (by decide) (qv_int0 ((0 - ra).floor))).mono ?_; rintro e w332 ⟨b_pgn, A_pgn, n_pgn, b_pgd, A_pgd, n_pgd, rfl, z_pgn, z_pgd, hb332⟩
          have R332 := (((R331.below hb332).add z_pgn).add z_pgd)
          have s332 := And.intro (R332.cell 5 0 rfl rfl) (And.intro (R332.cell 5 1 rfl rfl) (And.intro (R332.cell 5 2 rfl rfl) (And.intro (R332.cell 5 3 rfl rfl) (And.intro (R332.cell 3 0 rfl rfl) (And.intro (R332.cell 3 1 rfl rfl) (And.intro (R332.cell 3 2 rfl rfl) (And.intro (R332.cell 3 3 rfl rfl) (And.intro (R332.cell 0 0 rfl rfl) (And.intro (R332.cell 0 1 rfl rfl) (And.intro (R332.cell 0 2 rfl rfl) (And.intro (R332.cell 0 3 rfl rfl) (And.intro (R332.cell 4 0 rfl rfl) (And.intro (R332.cell 4 1 rfl rfl) (And.intro (R332.cell 4 2 rfl rfl) (And.intro (R332.cell 4 3 rfl rfl) (And.intro (R332.cell 6 0 rfl rfl) (And.intro (R332.cell 6 1 rfl rfl) (And.intro (R332.cell 6 2 rfl rfl) (R332.cell 6 3 rfl rfl)))))))))))))))))))
          clear z_pgn z_pgd hb332 R331 s331
          go_wp2_with fail
          refine hK.out _ _ (fun _ => s332) ?_
          clear hK K
          try simp only [Act.put, List.getElem_toArray, List.getElem_cons_succ, List.getElem_cons_zero, List.setIfInBounds_toArray, List.set_cons_zero, List.set_cons_succ]
          refine wpAnyL_one (i := 5) (by kernel_rfl) rfl (fun K hK => ?_)
          go_simp
          refine (rqsame (R332.z 3 rfl) (R332.z 2 rfl) (R332.z 1 rfl) (R332.z 0 rfl) (by decide) (by decide) (by decide) (by decide) (qsame_eq (qwh_neg ra))).mono ?_; rintro e w333 ⟨rfl, hb333⟩
          have R333 := (R332.below hb333)
          have s333 := And.intro (R333.cell 5 0 rfl rfl) (And.intro (R333.cell 5 1 rfl rfl) (And.intro (R333.cell 5 2 rfl rfl) (And.intro (R333.cell 5 3 rfl rfl) (And.intro (R333.cell 3 0 rfl rfl) (And.intro (R333.cell 3 1 rfl rfl) (And.intro (R333.cell 3 2 rfl rfl) (And.intro (R333.cell 3 3 rfl rfl) (And.intro (R333.cell 0 0 rfl rfl) (And.intro (R333.cell 0 1 rfl rfl) (And.intro (R333.cell 0 2 rfl rfl) (And.intro (R333.cell 0 3 rfl rfl) (And.intro (R333.cell 4 0 rfl rfl) (And.intro (R333.cell 4 1 rfl rfl) (And.intro (R333.cell 4 2 rfl rfl) (And.intro (R333.cell 4 3 rfl rfl) (And.intro (R333.cell 6 0 rfl rfl) (And.intro (R333.cell 6 1 rfl rfl) (And.intro (R333.cell 6 2 rfl rfl) (R333.cell 6 3 rfl rfl)))))))))))))))))))
          clear hb333 R332 s332
          go_wp2_with fail
          refine hK.out _ _ (fun _ => s333) ?_
          clear hK K
          try simp only [Act.put, List.getElem_toArray, List.getElem_cons_succ, List.getElem_cons_zero, List.setIfInBounds_toArray, List.set_cons_zero, List.set_cons_succ]
          refine wpAnyL_take (i := 6) (v := ?_) rfl (by kernel_rfl) (by kernel_rfl) (by kernel_rfl) (by kernel_rfl) (by kernel_rfl) (fun _ _ _ h => h) (Or.inl ⟨by kernel_rfl, ?_⟩) s333 ?_
          rotate_left
          · rintro w' ⟨h1, h2, h3, h4, h5, h6, h7, h8, h9, h10, h11, h12, h13, h14, h15, h16, h17, h18, h19, h20⟩; go_simp; (try with_reducible rfl)
          try simp only [Act.put, List.getElem_toArray, List.getElem_cons_succ, List.getElem_cons_zero, List.setIfInBounds_toArray, List.set_cons_zero, List.set_cons_succ]
          refine wpAnyL_take (i := 7) (v := ?_) rfl (by kernel_rfl) (by kernel_rfl) (by kernel_rfl) (by kernel_rfl) (by kernel_rfl) (fun _ _ _ h => h) (Or.inl ⟨by kernel_rfl, ?_⟩) s333 ?_
          rotate_left
          · rintro w' ⟨h1, h2, h3, h4, h5, h6, h7, h8, h9, h10, h11, h12, h13, h14, h15, h16, h17, h18, h19, h20⟩; go_simp; (try with_reducible rfl)
          try simp only [Act.put, List.getElem_toArray, List.getElem_cons_succ, List.getElem_cons_zero, List.setIfInBounds_toArray, List.set_cons_zero, List.set_cons_succ]
          refine wpAnyL_take (i := 8) (v := ?_) rfl (by kernel_rfl) (by kernel_rfl) (by kernel_rfl) (by kernel_rfl) (by kernel_rfl) (fun _ _ _ h => h) (Or.inl ⟨by kernel_rfl, ?_⟩) s333 ?_
          rotate_left
          · rintro w' ⟨h1, h2, h3, h4, h5, h6, h7, h8, h9, h10, h11, h12, h13, h14, h15, h16, h17, h18, h19, h20⟩; go_simp; (try with_reducible rfl)
          try simp only [Act.put, List.getElem_toArray, List.getElem_cons_succ, List.getElem_cons_zero, List.setIfInBounds_toArray, List.set_cons_zero, List.set_cons_succ]
          refine wpAnyL_take (i := 9) (v := ?_) rfl (by kernel_rfl) (by kernel_rfl) (by kernel_rfl) (by kernel_rfl) (by kernel_rfl) (fun _ _ _ h => h) (Or.inl ⟨by kernel_rfl, ?_⟩) s333 ?_
          rotate_left
          · rintro w' ⟨h1, h2, h3, h4, h5, h6, h7, h8, h9, h10, h11, h12, h13, h14, h15, h16, h17, h18, h19, h20⟩; go_simp; (try with_reducible rfl)
          try simp only [Act.put, List.getElem_toArray, List.getElem_cons_succ, List.getElem_cons_zero, List.setIfInBounds_toArray, List.set_cons_zero, List.set_cons_succ]
          refine wpAnyL_one (i := 10) (by kernel_rfl) rfl (fun K hK => ?_)
          go_simp
          refine (qcmp_ (k := 4) (R333.z 12 rfl) (R333.z 13 rfl) (R333.z 16 rfl) (R333.z 15 rfl) (by decide) (by decide) (by decide) (by decide) (by decide) (by decide) (qv_int0 (ra.floor)) Ha.out HW.out.1).mono ?_; rintro e w334 ⟨rfl, hb334⟩
          have R334 := (R333.below hb334)
          have s334 := And.intro (R334.cell 5 0 rfl rfl) (And.intro (R334.cell 5 1 rfl rfl) (And.intro (R334.cell 5 2 rfl rfl) (And.intro (R334.cell 5 3 rfl rfl) (And.intro (R334.cell 3 0 rfl rfl) (And.intro (R334.cell 3 1 rfl rfl) (And.intro (R334.cell 3 2 rfl rfl) (And.intro (R334.cell 3 3 rfl rfl) (And.intro (R334.cell 0 0 rfl rfl) (And.intro (R334.cell 0 1 rfl rfl) (And.intro (R334.cell 0 2 rfl rfl) (And.intro (R334.cell 0 3 rfl rfl) (And.intro (R334.cell 4 0 rfl rfl) (And.intro (R334.cell 4 1 rfl rfl) (And.intro (R334.cell 4 2 rfl rfl) (And.intro (R334.cell 4 3 rfl rfl) (And.intro (R334.cell 6 0 rfl rfl) (And.intro (R334.cell 6 1 rfl rfl) (And.intro (R334.cell 6 2 rfl rfl) (R334.cell 6 3 rfl rfl)))))))))))))))))))
          clear hb334 R333 s333
          go_wp2_with fail
          refine hK.out _ _ (fun _ => s334) ?_
          clear hK K
          try simp only [Act.put, List.getElem_toArray, List.getElem_cons_succ, List.getElem_cons_zero, List.setIfInBounds_toArray, List.set_cons_zero, List.set_cons_succ]
          refine wpAnyL_take (i := 11) (v := ?_) rfl (by kernel_rfl) (by kernel_rfl) (by kernel_rfl) (by kernel_rfl) (by kernel_rfl) (fun _ _ _ h => h) (Or.inl ⟨by kernel_rfl, ?_⟩) s334 ?_
          rotate_left
          · rintro w' ⟨h1, h2, h3, h4, h5, h6, h7, h8, h9, h10, h11, h12, h13, h14, h15, h16, h17, h18, h19, h20⟩; go_simp; (try with_reducible rfl)
          try simp only [Act.put, List.getElem_toArray, List.getElem_cons_succ, List.getElem_cons_zero, List.setIfInBounds_toArray, List.set_cons_zero, List.set_cons_succ]
          refine wpAnyL_take (i := 12) (v := ?_) rfl (by kernel_rfl) (by kernel_rfl) (by kernel_rfl) (by kernel_rfl) (by kernel_rfl) (fun _ _ _ h => h) (Or.inl ⟨by kernel_rfl, ?_⟩) s334 ?_
          rotate_left
          · rintro w' ⟨h1, h2, h3, h4, h5, h6, h7, h8, h9, h10, h11, h12, h13, h14, h15, h16, h17, h18, h19, h20⟩; go_simp; (try with_reducible rfl)
          try simp only [Act.put, List.getElem_toArray, List.getElem_cons_succ, List.getElem_cons_zero, List.setIfInBounds_toArray, List.set_cons_zero, List.set_cons_succ]
          refine wpAnyL_take (i := 13) (v := ?_) rfl (by kernel_rfl) (by kernel_rfl) (by kernel_rfl) (by kernel_rfl) (by kernel_rfl) (fun _ _ _ h => h) (Or.inl ⟨by kernel_rfl, ?_⟩) s334 ?_
          rotate_left
          · rintro w' ⟨h1, h2, h3, h4, h5, h6, h7, h8, h9, h10, h11, h12, h13, h14, h15, h16, h17, h18, h19, h20⟩; go_simp; (try with_reducible rfl)
          try simp only [Act.put, List.getElem_toArray, List.getElem_cons_succ, List.getElem_cons_zero, List.setIfInBounds_toArray, List.set_cons_zero, List.set_cons_succ]
          refine wpAnyL_take (i := 14) (v := ?_) rfl (by kernel_rfl) (by kernel_rfl) (by kernel_rfl) (by kernel_rfl) (by kernel_rfl) (fun _ _ _ h => h) (Or.inl ⟨by kernel_rfl, ?_⟩) s334 ?_
          rotate_left
          · rintro w' ⟨h1, h2, h3, h4, h5, h6, h7, h8, h9, h10, h11, h12, h13, h14, h15, h16, h17, h18, h19, h20⟩; go_simp; (try with_reducible rfl)
          try simp only [Act.put, List.getElem_toArray, List.getElem_cons_succ, List.getElem_cons_zero, List.setIfInBounds_toArray, List.set_cons_zero, List.set_cons_succ]
          refine wpAnyL_take (i := 15) (v := ?_) rfl (by kernel_rfl) (by kernel_rfl) (by kernel_rfl) (by kernel_rfl) (by kernel_rfl) (fun _ _ _ h => h) (Or.inl ⟨by kernel_rfl, ?_⟩) s334 ?_
          rotate_left
          · rintro w' ⟨h1, h2, h3, h4, h5, h6, h7, h8, h9, h10, h11, h12, h13, h14, h15, h16, h17, h18, h19, h20⟩; go_simp; (try with_reducible rfl)
          try simp only [Act.put, List.getElem_toArray, List.getElem_cons_succ, List.getElem_cons_zero, List.setIfInBounds_toArray, List.set_cons_zero, List.set_cons_succ]
          refine wpAnyL_one (i := 16) (by kernel_rfl) rfl (fun K hK => ?_)
          go_simp
          refine (qcmp_ (k := 4) (R334.z 11 rfl) (R334.z 13 rfl) (R334.z 16 rfl) (R334.z 15 rfl) (by decide) (by decide) (by decide) (by decide) (by decide) (by decide) (qv_int0 (ra.ceil)) Ha.out HW.out.2.1).mono ?_; rintro e w335 ⟨rfl, hb335⟩
          have R335 := (R334.below hb335)
          have s335 := And.intro (R335.cell 5 0 rfl rfl) (And.intro (R335.cell 5 1 rfl rfl) (And.intro (R335.cell 5 2 rfl rfl) (And.intro (R335.cell 5 3 rfl rfl) (And.intro (R335.cell 3 0 rfl rfl) (And.intro (R335.cell 3 1 rfl rfl) (And.intro (R335.cell 3 2 rfl rfl) (And.intro (R335.cell 3 3 rfl rfl) (And.intro (R335.cell 0 0 rfl rfl) (And.intro (R335.cell 0 1 rfl rfl) (And.intro (R335.cell 0 2 rfl rfl) (And.intro (R335.cell 0 3 rfl rfl) (And.intro (R335.cell 4 0 rfl rfl) (And.intro (R335.cell 4 1 rfl rfl) (And.intro (R335.cell 4 2 rfl rfl) (And.intro (R335.cell 4 3 rfl rfl) (And.intro (R335.cell 6 0 rfl rfl) (And.intro (R335.cell 6 1 rfl rfl) (And.intro (R335.cell 6 2 rfl rfl) (R335.cell 6 3 rfl rfl)))))))))))))))))))
          clear hb335 R334 s334
          go_wp2_with fail
          refine hK.out _ _ (fun _ => s335) ?_
          clear hK K
          try simp only [Act.put, List.getElem_toArray, List.getElem_cons_succ, List.getElem_cons_zero, List.setIfInBounds_toArray, List.set_cons_zero, List.set_cons_succ]
          refine wpAnyL_take (i := 17) (v := ?_) rfl (by kernel_rfl) (by kernel_rfl) (by kernel_rfl) (by kernel_rfl) (by kernel_rfl) (fun _ _ _ h => h) (Or.inl ⟨by kernel_rfl, ?_⟩) s335 ?_
          rotate_left
          · rintro w' ⟨h1, h2, h3, h4, h5, h6, h7, h8, h9, h10, h11, h12, h13, h14, h15, h16, h17, h18, h19, h20⟩; go_simp; (try with_reducible rfl)
          try simp only [Act.put, List.getElem_toArray, List.getElem_cons_succ, List.getElem_cons_zero, List.setIfInBounds_toArray, List.set_cons_zero, List.set_cons_succ]
          refine wpAnyL_take (i := 18) (v := ?_) rfl (by kernel_rfl) (by kernel_rfl) (by kernel_rfl) (by kernel_rfl) (by kernel_rfl) (fun _ _ _ h => h) (Or.inl ⟨by kernel_rfl, ?_⟩) s335 ?_
          rotate_left
          · rintro w' ⟨h1, h2, h3, h4, h5, h6, h7, h8, h9, h10, h11, h12, h13, h14, h15, h16, h17, h18, h19, h20⟩; go_simp; (try with_reducible rfl)
          try simp only [Act.put, List.getElem_toArray, List.getElem_cons_succ, List.getElem_cons_zero, List.setIfInBounds_toArray, List.set_cons_zero, List.set_cons_succ]
          refine wpAnyL_done (by kernel_rfl) ?_ _
          go_wp2_with fail
          have D336 := R335.drew
          have s336 := And.intro (D336.cell 5 0 rfl rfl) (And.intro (D336.cell 5 1 rfl rfl) (And.intro (D336.cell 5 2 rfl rfl) (And.intro (D336.cell 5 3 rfl rfl) (And.intro (D336.cell 3 0 rfl rfl) (And.intro (D336.cell 3 1 rfl rfl) (And.intro (D336.cell 3 2 rfl rfl) (And.intro (D336.cell 3 3 rfl rfl) (And.intro (D336.cell 4 0 rfl rfl) (And.intro (D336.cell 4 1 rfl rfl) (And.intro (D336.cell 4 2 rfl rfl) (And.intro (D336.cell 4 3 rfl rfl) (And.intro (D336.cell 1 0 rfl rfl) (And.intro (D336.cell 1 1 rfl rfl) (And.intro (D336.cell 1 2 rfl rfl) (D336.cell 1 3 rfl rfl)))))))))))))))
          refine wp_region_late [] (fun w' => w'.cell? ⟨w3.heap.size, 0, none⟩ = some (.bool b_zen) ∧ w'.cell? ⟨w3.heap.size, 1, none⟩ = some (.slice A_zen n_zen c_zen) ∧ w'.cell? ⟨w3.heap.size, 2, none⟩ = some (.bool b_zed) ∧ w'.cell? ⟨w3.heap.size, 3, none⟩ = some (.slice A_zed n_zed c_zed) ∧ w'.cell? ⟨g_c, 0, none⟩ = some (.bool b_ce) ∧ w'.cell? ⟨g_c, 1, none⟩ = some (.slice A_ce n_ce n_ce) ∧ w'.cell? ⟨g_c, 2, none⟩ = some (.bool b_zed) ∧ w'.cell? ⟨g_c, 3, none⟩ = some (.slice A_zed n_zed c_zed) ∧ w'.cell? ⟨g_f, 0, none⟩ = some (.bool b_fl) ∧ w'.cell? ⟨g_f, 1, none⟩ = some (.slice A_fl n_fl n_fl) ∧ w'.cell? ⟨g_f, 2, none⟩ = some (.bool b_zed) ∧ w'.cell? ⟨g_f, 3, none⟩ = some (.slice A_zed n_zed c_zed) ∧ w'.cell? ⟨w219.heap.size, 0, none⟩ = some (.bool b_onen) ∧ w'.cell? ⟨w219.heap.size, 1, none⟩ = some (.slice A_onen n_onen n_onen) ∧ w'.cell? ⟨w219.heap.size, 2, none⟩ = some (.bool b_oned) ∧ w'.cell? ⟨w219.heap.size, 3, none⟩ = some (.slice A_oned n_oned n_oned)) (by kernel_rfl) ?_
          refine wpAnyL_take (i := 0) (v := ?_) rfl (by kernel_rfl) (by kernel_rfl) (by kernel_rfl) (by kernel_rfl) (by kernel_rfl) (fun _ _ _ h => h) (Or.inl ⟨by kernel_rfl, ?_⟩) s336 ?_
          rotate_left
          · rintro w' ⟨h1, h2, h3, h4, h5, h6, h7, h8, h9, h10, h11, h12, h13, h14, h15, h16⟩; go_simp; (try with_reducible rfl)
          try simp only [Act.put, List.getElem_toArray, List.getElem_cons_succ, List.getElem_cons_zero, List.setIfInBounds_toArray, List.set_cons_zero, List.set_cons_succ]
          refine wpAnyL_take (i := 1) (v := ?_) rfl (by kernel_rfl) (by kernel_rfl) (by kernel_rfl) (by kernel_rfl) (by kernel_rfl) (fun _ _ _ h => h) (Or.inl ⟨by kernel_rfl, ?_⟩) s336 ?_
          rotate_left
          · rintro w' ⟨h1, h2, h3, h4, h5, h6, h7, h8, h9, h10, h11, h12, h13, h14, h15, h16⟩; go_simp; (try with_reducible rfl)
          try simp only [Act.put, List.getElem_toArray, List.getElem_cons_succ, List.getElem_cons_zero, List.setIfInBounds_toArray, List.set_cons_zero, List.set_cons_succ]
          refine wpAnyL_take (i := 2) (v := ?_) rfl (by kernel_rfl) (by kernel_rfl) (by kernel_rfl) (by kernel_rfl) (by kernel_rfl) (fun _ _ _ h => h) (Or.inl ⟨by kernel_rfl, ?_⟩) s336 ?_
          rotate_left
          · rintro w' ⟨h1, h2, h3, h4, h5, h6, h7, h8, h9, h10, h11, h12, h13, h14, h15, h16⟩; go_simp; (try with_reducible rfl)
          try simp only [Act.put, List.getElem_toArray, List.getElem_cons_succ, List.getElem_cons_zero, List.setIfInBounds_toArray, List.set_cons_zero, List.set_cons_succ]
          refine wpAnyL_take (i := 3) (v := ?_) rfl (by kernel_rfl) (by kernel_rfl) (by kernel_rfl) (by kernel_rfl) (by kernel_rfl) (fun _ _ _ h => h) (Or.inl ⟨by kernel_rfl, ?_⟩) s336 ?_
          rotate_left
          · rintro w' ⟨h1, h2, h3, h4, h5, h6, h7, h8, h9, h10, h11, h12, h13, h14, h15, h16⟩; go_simp; (try with_reducible rfl)
          try simp only [Act.put, List.getElem_toArray, List.getElem_cons_succ, List.getElem_cons_zero, List.setIfInBounds_toArray, List.set_cons_zero, List.set_cons_succ]
          refine wpAnyL_take (i := 5) (v := ?_) rfl (by kernel_rfl) (by kernel_rfl) (by kernel_rfl) (by kernel_rfl) (by kernel_rfl) (fun _ _ _ h => h) (Or.inl ⟨by kernel_rfl, ?_⟩) s336 ?_
          rotate_left
          · rintro w' ⟨h1, h2, h3, h4, h5, h6, h7, h8, h9, h10, h11, h12, h13, h14, h15, h16⟩; go_simp; (try with_reducible rfl)
          try simp only [Act.put, List.getElem_toArray, List.getElem_cons_succ, List.getElem_cons_zero, List.setIfInBounds_toArray, List.set_cons_zero, List.set_cons_succ]
          refine wpAnyL_one (i := 4) (by kernel_rfl) rfl (fun K hK => ?_)
          go_simp
          refine (qsub (k := 4) (D336.z 11 rfl) (D336.z 13 rfl) (D336.z 12 rfl) (D336.z 13 rfl) (by decide) (by decide) (by decide) (by decide) (by decide) (by decide) (qv_int0 (ra.ceil)) (qv_int0 (ra.floor))).mono ?_; rintro e w337 ⟨b_cfn, A_cfn, n_cfn, b_cfd, A_cfd, n_cfd, rfl, z_cfn, z_cfd, hb337⟩
          have R337 := (((D336.below hb337).add z_cfn).add z_cfd)
          have s337 := And.intro (R337.cell 5 0 rfl rfl) (And.intro (R337.cell 5 1 rfl rfl) (And.intro (R337.cell 5 2 rfl rfl) (And.intro (R337.cell 5 3 rfl rfl) (And.intro (R337.cell 3 0 rfl rfl) (And.intro (R337.cell 3 1 rfl rfl) (And.intro (R337.cell 3 2 rfl rfl) (And.intro (R337.cell 3 3 rfl rfl) (And.intro (R337.cell 4 0 rfl rfl) (And.intro (R337.cell 4 1 rfl rfl) (And.intro (R337.cell 4 2 rfl rfl) (And.intro (R337.cell 4 3 rfl rfl) (And.intro (R337.cell 1 0 rfl rfl) (And.intro (R337.cell 1 1 rfl rfl) (And.intro (R337.cell 1 2 rfl rfl) (R337.cell 1 3 rfl rfl)))))))))))))))
          clear z_cfn z_cfd hb337 D336 s336
          go_wp2_with fail
          refine hK.out _ _ (fun _ => s337) ?_
          clear hK K
          try simp only [Act.put, List.getElem_toArray, List.getElem_cons_succ, List.getElem_cons_zero, List.setIfInBounds_toArray, List.set_cons_zero, List.set_cons_succ]
          refine wpAnyL_one (i := 6) (by kernel_rfl) rfl (fun K hK => ?_)
          go_simp
          refine (rqsame (R337.z 1 rfl) (R337.z 0 rfl) (R337.z 16 rfl) (R337.z 15 rfl) (by decide) (by decide) (by decide) (by decide) (qsame_eq HW.out.2.2)).mono ?_; rintro e w338 ⟨rfl, hb338⟩
          have R338 := (R337.below hb338)
          have s338 := And.intro (R338.cell 5 0 rfl rfl) (And.intro (R338.cell 5 1 rfl rfl) (And.intro (R338.cell 5 2 rfl rfl) (And.intro (R338.cell 5 3 rfl rfl) (And.intro (R338.cell 3 0 rfl rfl) (And.intro (R338.cell 3 1 rfl rfl) (And.intro (R338.cell 3 2 rfl rfl) (And.intro (R338.cell 3 3 rfl rfl) (And.intro (R338.cell 4 0 rfl rfl) (And.intro (R338.cell 4 1 rfl rfl) (And.intro (R338.cell 4 2 rfl rfl) (And.intro (R338.cell 4 3 rfl rfl) (And.intro (R338.cell 1 0 rfl rfl) (And.intro (R338.cell 1 1 rfl rfl) (And.intro (R338.cell 1 2 rfl rfl) (R338.cell 1 3 rfl rfl)))))))))))))))
          clear hb338 R337 s337
          go_wp2_with fail
          refine hK.out _ _ (fun _ => s338) ?_
          clear hK K
          try simp only [Act.put, List.getElem_toArray, List.getElem_cons_succ, List.getElem_cons_zero, List.setIfInBounds_toArray, List.set_cons_zero, List.set_cons_succ]
          refine wpAnyL_take (i := 7) (v := ?_) rfl (by kernel_rfl) (by kernel_rfl) (by kernel_rfl) (by kernel_rfl) (by kernel_rfl) (fun _ _ _ h => h) (Or.inl ⟨by kernel_rfl, ?_⟩) s338 ?_
          rotate_left
          · rintro w' ⟨h1, h2, h3, h4, h5, h6, h7, h8, h9, h10, h11, h12, h13, h14, h15, h16⟩; go_simp; (try with_reducible rfl)
          try simp only [Act.put, List.getElem_toArray, List.getElem_cons_succ, List.getElem_cons_zero, List.setIfInBounds_toArray, List.set_cons_zero, List.set_cons_succ]
          refine wpAnyL_take (i := 8) (v := ?_) rfl (by kernel_rfl) (by kernel_rfl) (by kernel_rfl) (by kernel_rfl) (by kernel_rfl) (fun _ _ _ h => h) (Or.inl ⟨by kernel_rfl, ?_⟩) s338 ?_
          rotate_left
          · rintro w' ⟨h1, h2, h3, h4, h5, h6, h7, h8, h9, h10, h11, h12, h13, h14, h15, h16⟩; go_simp; (try with_reducible rfl)
          try simp only [Act.put, List.getElem_toArray, List.getElem_cons_succ, List.getElem_cons_zero, List.setIfInBounds_toArray, List.set_cons_zero, List.set_cons_succ]
          refine wpAnyL_take (i := 9) (v := undef) rfl (by kernel_rfl) (by kernel_rfl) (by kernel_rfl) (by kernel_rfl) (by kernel_rfl) (fun _ _ _ h => h) (Or.inr ⟨by kernel_rfl, rfl⟩) s338 ?_
          try simp only [Act.put, List.getElem_toArray, List.getElem_cons_succ, List.getElem_cons_zero, List.setIfInBounds_toArray, List.set_cons_zero, List.set_cons_succ]
          refine wpAnyL_take (i := 10) (v := undef) rfl (by kernel_rfl) (by kernel_rfl) (by kernel_rfl) (by kernel_rfl) (by kernel_rfl) (fun _ _ _ h => h) (Or.inr ⟨by kernel_rfl, rfl⟩) s338 ?_
          try simp only [Act.put, List.getElem_toArray, List.getElem_cons_succ, List.getElem_cons_zero, List.setIfInBounds_toArray, List.set_cons_zero, List.set_cons_succ]
          refine wpAnyL_take (i := 11) (v := undef) rfl (by kernel_rfl) (by kernel_rfl) (by kernel_rfl) (by kernel_rfl) (by kernel_rfl) (fun _ _ _ h => h) (Or.inr ⟨by kernel_rfl, rfl⟩) s338 ?_
          try simp only [Act.put, List.getElem_toArray, List.getElem_cons_succ, List.getElem_cons_zero, List.setIfInBounds_toArray, List.set_cons_zero, List.set_cons_succ]
          refine wpAnyL_take (i := 12) (v := undef) rfl (by kernel_rfl) (by kernel_rfl) (by kernel_rfl) (by kernel_rfl) (by kernel_rfl) (fun _ _ _ h => h) (Or.inr ⟨by kernel_rfl, rfl⟩) s338 ?_
          try simp only [Act.put, List.getElem_toArray, List.getElem_cons_succ, List.getElem_cons_zero, List.setIfInBounds_toArray, List.set_cons_zero, List.set_cons_succ]
          refine wpAnyL_take (i := 13) (v := undef) rfl (by kernel_rfl) (by kernel_rfl) (by kernel_rfl) (by kernel_rfl) (by kernel_rfl) (fun _ _ _ h => h) (Or.inr ⟨by kernel_rfl, rfl⟩) s338 ?_
          try simp only [Act.put, List.getElem_toArray, List.getElem_cons_succ, List.getElem_cons_zero, List.setIfInBounds_toArray, List.set_cons_zero, List.set_cons_succ]
          refine wpAnyL_take (i := 15) (v := undef) rfl (by kernel_rfl) (by kernel_rfl) (by kernel_rfl) (by kernel_rfl) (by kernel_rfl) (fun _ _ _ h => h) (Or.inr ⟨by kernel_rfl, rfl⟩) s338 ?_
          try simp only [Act.put, List.getElem_toArray, List.getElem_cons_succ, List.getElem_cons_zero, List.setIfInBounds_toArray, List.set_cons_zero, List.set_cons_succ]
          refine wpAnyL_one (i := 14) (by kernel_rfl) rfl (fun K hK => ?_)
          rw [if_neg (Bool.eq_false_iff.1 (by kernel_rfl))]
          refine hK.out _ _ (fun _ => s338) ?_
          clear hK K
          try simp only [Act.put, List.getElem_toArray, List.getElem_cons_succ, List.getElem_cons_zero, List.setIfInBounds_toArray, List.set_cons_zero, List.set_cons_succ]
          refine wpAnyL_one (i := 16) (by kernel_rfl) rfl (fun K hK => ?_)
          rw [if_neg (Bool.eq_false_iff.1 (by kernel_rfl))]
          refine hK.out _ _ (fun _ => s338) ?_
          clear hK K
          try simp only [Act.put, List.getElem_toArray, List.getElem_cons_succ, List.getElem_cons_zero, List.setIfInBounds_toArray, List.set_cons_zero, List.set_cons_succ]
          refine wpAnyL_take (i := 17) (v := undef) rfl (by kernel_rfl) (by kernel_rfl) (by kernel_rfl) (by kernel_rfl) (by kernel_rfl) (fun _ _ _ h => h) (Or.inr ⟨by kernel_rfl, rfl⟩) s338 ?_
          try simp only [Act.put, List.getElem_toArray, List.getElem_cons_succ, List.getElem_cons_zero, List.setIfInBounds_toArray, List.set_cons_zero, List.set_cons_succ]
          refine wpAnyL_take (i := 18) (v := ?_) rfl (by kernel_rfl) (by kernel_rfl) (by kernel_rfl) (by kernel_rfl) (by kernel_rfl) (fun _ _ _ h => h) (Or.inl ⟨by kernel_rfl, ?_⟩) s338 ?_
          rotate_left
          · rintro w' ⟨h1, h2, h3, h4, h5, h6, h7, h8, h9, h10, h11, h12, h13, h14, h15, h16⟩; go_simp; (try with_reducible rfl)
          try simp only [Act.put, List.getElem_toArray, List.getElem_cons_succ, List.getElem_cons_zero, List.setIfInBounds_toArray, List.set_cons_zero, List.set_cons_succ]
          refine wpAnyL_one (i := 19) (by kernel_rfl) rfl (fun K hK => ?_)
          go_simp
          refine hK.out _ _ (fun _ => s338) ?_
          clear hK K
          try simp only [Act.put, List.getElem_toArray, List.getElem_cons_succ, List.getElem_cons_zero, List.setIfInBounds_toArray, List.set_cons_zero, List.set_cons_succ]
          refine wpAnyL_done (by kernel_rfl) ?_ _
          go_wp2_with fail
          go_ret
          exact ⟨rfl, R338.bel⟩
  · have HC := Lib.hid h0
    have HW := Lib.hid (qwh_1 h0)
    clear h0
    go_enter Tryz.func5, Tryz.ntmps5
    go_wp2_with fail
    refine (qawake_any _).mono ?_; rintro e w1 ⟨rfl, hb1⟩
    have R1 := (R0.below hb1)
    clear hb1 R0
    have k2a0 := R1.cell 0 0 rfl rfl
    have k2a1 := R1.cell 0 1 rfl rfl
    have k2a2 := R1.cell 0 2 rfl rfl
    have k2a3 := R1.cell 0 3 rfl rfl
    go_wp2_with fail
    clear k2a0 k2a1 k2a2 k2a3
    refine (qfew _ _ _ _ _ _ _ _ _).mono ?_; rintro e w2 ⟨rfl, hb2⟩
    have R2 := (R1.below hb2)
    clear hb2 R1
    rw [decide_eq_true hfa.out]
    go_wp2_with fail
    refine (rqzero _).mono ?_; rintro e w3 ⟨b_zen, A_zen, n_zen, c_zen, b_zed, A_zed, n_zed, c_zed, rfl, z_zen, z_zed, hb3⟩
    have R3 := ((((R2.below hb3).add z_zen).add z_zed).alloc 26 #[.bool b_zen, .slice A_zen n_zen c_zen, .bool b_zed, .slice A_zed n_zed c_zed] (g := w3.heap.size) rfl rfl)
    clear z_zen z_zed hb3 R2
    go_upto_region 6 with (fail)
    go_cut [4] (fun p_ wx => ∃ (g_f : Nat) (b_fl : Bool) (A_fl : Option Addr) (n_fl : Nat), p_ = .pointer (some ⟨g_f, 0, none⟩) ∧ Env w wx [(g_f, 26, #[.bool b_fl, .slice A_fl n_fl n_fl, .bool b_zed, .slice A_zed n_zed c_zed]), (w3.heap.size, 26, #[.bool b_zen, .slice A_zen n_zen c_zen, .bool b_zed, .slice A_zed n_zed c_zed]), (w.heap.size, 26, #[.bool ba, .slice Aa na ca, .bool ba', .slice Aa' na' ca'])] [⟨b_fl, A_fl, n_fl, n_fl, ra.floor, 4, true⟩, ⟨b_zed, A_zed, n_zed, c_zed, ((((0 : Rat)).den : Nat) : Int), 1, true⟩, ⟨b_zen, A_zen, n_zen, c_zen, ((0 : Rat)).num, 1, true⟩, ⟨ba', Aa', na', ca', ya, 4, false⟩, ⟨ba, Aa, na, ca, xa, 4, false⟩])
    case first =>
      have R4 := R3.drew
      refine wp_region_late [] (fun w' => w'.cell? ⟨w.heap.size, 0, none⟩ = some (.bool ba) ∧ w'.cell? ⟨w.heap.size, 1, none⟩ = some (.slice Aa na ca) ∧ w'.cell? ⟨w.heap.size, 2, none⟩ = some (.bool ba') ∧ w'.cell? ⟨w.heap.size, 3, none⟩ = some (.slice Aa' na' ca') ∧ w'.cell? ⟨w3.heap.size, 0, none⟩ = some (.bool b_zen) ∧ w'.cell? ⟨w3.heap.size, 1, none⟩ = some (.slice A_zen n_zen c_zen) ∧ w'.cell? ⟨w3.heap.size, 2, none⟩ = some (.bool b_zed) ∧ w'.cell? ⟨w3.heap.size, 3, none⟩ = some (.slice A_zed n_zed c_zed)) (by kernel_rfl) ?_
      generalize hgw : World.drew _ = w4 at *
      clear hgw
      have s4 := And.intro (R4.cell 1 0 rfl rfl) (And.intro (R4.cell 1 1 rfl rfl) (And.intro (R4.cell 1 2 rfl rfl) (And.intro (R4.cell 1 3 rfl rfl) (And.intro (R4.cell 0 0 rfl rfl) (And.intro (R4.cell 0 1 rfl rfl) (And.intro (R4.cell 0 2 rfl rfl) (R4.cell 0 3 rfl rfl)))))))
      refine wpAnyL_take (i := 0) (v := ?_) rfl (by kernel_rfl) (by kernel_rfl) (by kernel_rfl) (by kernel_rfl) (by kernel_rfl) (fun _ _ _ h => h) (Or.inl ⟨by kernel_rfl, ?_⟩) s4 ?_
      rotate_left
      · rintro w' ⟨h1, h2, h3, h4, h5, h6, h7, h8⟩; go_simp; (try with_reducible rfl)
      try simp only [Act.put, List.setIfInBounds_toArray, List.set_cons_zero, List.set_cons_succ]
      refine wpAnyL_take (i := 2) (v := ?_) rfl (by kernel_rfl) (by kernel_rfl) (by kernel_rfl) (by kernel_rfl) (by kernel_rfl) (fun _ _ _ h => h) (Or.inl ⟨by kernel_rfl, ?_⟩) s4 ?_
      rotate_left
      · rintro w' ⟨h1, h2, h3, h4, h5, h6, h7, h8⟩; go_simp; (try with_reducible rfl)
      try simp only [Act.put, List.setIfInBounds_toArray, List.set_cons_zero, List.set_cons_succ]
      refine wpAnyL_take (i := 3) (v := ?_) rfl (by kernel_rfl) (by kernel_rfl) (by kernel_rfl) (by kernel_rfl) (by kernel_rfl) (fun _ _ _ h => h) (Or.inl ⟨by kernel_rfl, ?_⟩) s4 ?_
      rotate_left
      · rintro w' ⟨h1, h2, h3, h4, h5, h6, h7, h8⟩; go_simp; (try with_reducible rfl)
      try simp only [Act.put, List.setIfInBounds_toArray, List.set_cons_zero, List.set_cons_succ]
      refine wpAnyL_all (rs := [1, 5]) (by kernel_rfl) (by simp) (StepsL.cons (i := 1) rfl (fun K hK => ?_) (StepsL.cons (i := 5) rfl (fun K hK => ?_) StepsL.nil))
      · go_simp
        refine (qfloor (k := 4) (R4.z 3 rfl) (R4.z 2 rfl) (by decide) (by decide) (by decide) (by decide) Ha.out).mono ?_; rintro e w5 ⟨b_fl, A_fl, n_fl, rfl, z_fl, hb5⟩
        have R5 := ((R4.below hb5).add z_fl)
        have s5 := And.intro (R5.cell 1 0 rfl rfl) (And.intro (R5.cell 1 1 rfl rfl) (And.intro (R5.cell 1 2 rfl rfl) (And.intro (R5.cell 1 3 rfl rfl) (And.intro (R5.cell 0 0 rfl rfl) (And.intro (R5.cell 0 1 rfl rfl) (And.intro (R5.cell 0 2 rfl rfl) (R5.cell 0 3 rfl rfl)))))))
        go_wp2_with fail
        refine hK.out _ _ (fun _ => s5) ?_
        clear hK K
        try simp only [Act.put, List.setIfInBounds_toArray, List.set_cons_zero, List.set_cons_succ]
        refine wpAnyL_take (i := 4) (v := ?_) rfl (by kernel_rfl) (by kernel_rfl) (by kernel_rfl) (by kernel_rfl) (by kernel_rfl) (fun _ _ _ h => h) (Or.inl ⟨by kernel_rfl, ?_⟩) s5 ?_
        rotate_left
        · rintro w' ⟨h1, h2, h3, h4, h5, h6, h7, h8⟩; go_simp; (try with_reducible rfl)
        try simp only [Act.put, List.setIfInBounds_toArray, List.set_cons_zero, List.set_cons_succ]
        refine wpAnyL_one (i := 5) (by kernel_rfl) rfl (fun K hK => ?_)
        go_simp
        have R6 := R5.alloc 26 #[.bool false, .slice none 0 0, .bool false, .slice none 0 0] (g := w5.heap.size) rfl rfl
        have s6 := And.intro (R6.cell 2 0 rfl rfl) (And.intro (R6.cell 2 1 rfl rfl) (And.intro (R6.cell 2 2 rfl rfl) (And.intro (R6.cell 2 3 rfl rfl) (And.intro (R6.cell 1 0 rfl rfl) (And.intro (R6.cell 1 1 rfl rfl) (And.intro (R6.cell 1 2 rfl rfl) (R6.cell 1 3 rfl rfl)))))))
        refine hK.out _ _ (fun _ => s6) ?_
        clear hK K
        try simp only [Act.put, List.setIfInBounds_toArray, List.set_cons_zero, List.set_cons_succ]
        generalize (w5.alloc (.cells #[.bool false, .slice none 0 0, .bool false, .slice none 0 0] 26)) = w6 at *
        refine wpAnyL_one (i := 6) (by kernel_rfl) rfl (fun K hK => ?_)
        have fc0 := R6.cell 0 0 rfl rfl
        have ff0 := R6.frozen 0 0 rfl
        have fc1 := R6.cell 0 1 rfl rfl
        have ff1 := R6.frozen 0 1 rfl
        have fc2 := R6.cell 0 2 rfl rfl
        have ff2 := R6.frozen 0 2 rfl
        have fc3 := R6.cell 0 3 rfl rfl
        have ff3 := R6.frozen 0 3 rfl
        go_simp
        clear fc0 ff0 fc1 ff1 fc2 ff2 fc3 ff3
        have R7 := R6.st4 0 (.bool b_fl) (.slice A_fl n_fl n_fl) (.bool b_zed) (.slice A_zed n_zed c_zed) rfl rfl rfl rfl rfl
        have s7 := And.intro (R7.cell 2 0 rfl rfl) (And.intro (R7.cell 2 1 rfl rfl) (And.intro (R7.cell 2 2 rfl rfl) (And.intro (R7.cell 2 3 rfl rfl) (And.intro (R7.cell 1 0 rfl rfl) (And.intro (R7.cell 1 1 rfl rfl) (And.intro (R7.cell 1 2 rfl rfl) (R7.cell 1 3 rfl rfl)))))))
        refine hK.out _ _ (fun _ => s7) ?_
        clear hK K
        try simp only [Act.put, List.setIfInBounds_toArray, List.set_cons_zero, List.set_cons_succ]
        generalize ((((w6.setCell ⟨w5.heap.size, 0, none⟩ (.bool b_fl)).setCell ⟨w5.heap.size, 1, none⟩ (.slice A_fl n_fl n_fl)).setCell ⟨w5.heap.size, 2, none⟩ (.bool b_zed)).setCell ⟨w5.heap.size, 3, none⟩ (.slice A_zed n_zed c_zed)) = w7 at *
        refine wpAnyL_done (by kernel_rfl) ?_ _
        go_wp2_with fail
        go_meet
        exact ⟨_, _, _, _, rfl, R7⟩
      · go_simp
        have R8 := R4.alloc 26 #[.bool false, .slice none 0 0, .bool false, .slice none 0 0] (g := w4.heap.size) rfl rfl
        have s8 := And.intro (R8.cell 2 0 rfl rfl) (And.intro (R8.cell 2 1 rfl rfl) (And.intro (R8.cell 2 2 rfl rfl) (And.intro (R8.cell 2 3 rfl rfl) (And.intro (R8.cell 1 0 rfl rfl) (And.intro (R8.cell 1 1 rfl rfl) (And.intro (R8.cell 1 2 rfl rfl) (R8.cell 1 3 rfl rfl)))))))
        refine hK.out _ _ (fun _ => s8) ?_
        clear hK K
        try simp only [Act.put, List.setIfInBounds_toArray, List.set_cons_zero, List.set_cons_succ]
        generalize (w4.alloc (.cells #[.bool false, .slice none 0 0, .bool false, .slice none 0 0] 26)) = w8 at *
        refine wpAnyL_one (i := 1) (by kernel_rfl) rfl (fun K hK => ?_)
        go_simp
        refine (qfloor (k := 4) (R8.z 3 rfl) (R8.z 2 rfl) (by decide) (by decide) (by decide) (by decide) Ha.out).mono ?_; rintro e w9 ⟨b_fl, A_fl, n_fl, rfl, z_fl, hb9⟩
        have R9 := ((R8.below hb9).add z_fl)
        have s9 := And.intro (R9.cell 2 0 rfl rfl) (And.intro (R9.cell 2 1 rfl rfl) (And.intro (R9.cell 2 2 rfl rfl) (And.intro (R9.cell 2 3 rfl rfl) (And.intro (R9.cell 1 0 rfl rfl) (And.intro (R9.cell 1 1 rfl rfl) (And.intro (R9.cell 1 2 rfl rfl) (R9.cell 1 3 rfl rfl)))))))
        go_wp2_with fail
        refine hK.out _ _ (fun _ => s9) ?_
        clear hK K
        try simp only [Act.put, List.setIfInBounds_toArray, List.set_cons_zero, List.set_cons_succ]
        refine wpAnyL_take (i := 4) (v := ?_) rfl (by kernel_rfl) (by kernel_rfl) (by kernel_rfl) (by kernel_rfl) (by kernel_rfl) (fun _ _ _ h => h) (Or.inl ⟨by kernel_rfl, ?_⟩) s9 ?_
        rotate_left
        · rintro w' ⟨h1, h2, h3, h4, h5, h6, h7, h8⟩; go_simp; (try with_reducible rfl)
        try simp only [Act.put, List.setIfInBounds_toArray, List.set_cons_zero, List.set_cons_succ]
        refine wpAnyL_one (i := 6) (by kernel_rfl) rfl (fun K hK => ?_)
        have fc0 := R9.cell 0 0 rfl rfl
        have ff0 := R9.frozen 0 0 rfl
        have fc1 := R9.cell 0 1 rfl rfl
        have ff1 := R9.frozen 0 1 rfl
        have fc2 := R9.cell 0 2 rfl rfl
        have ff2 := R9.frozen 0 2 rfl
        have fc3 := R9.cell 0 3 rfl rfl
        have ff3 := R9.frozen 0 3 rfl
        go_simp
        clear fc0 ff0 fc1 ff1 fc2 ff2 fc3 ff3
        have R10 := R9.st4 0 (.bool b_fl) (.slice A_fl n_fl n_fl) (.bool b_zed) (.slice A_zed n_zed c_zed) rfl rfl rfl rfl rfl
        have s10 := And.intro (R10.cell 2 0 rfl rfl) (And.intro (R10.cell 2 1 rfl rfl) (And.intro (R10.cell 2 2 rfl rfl) (And.intro (R10.cell 2 3 rfl rfl) (And.intro (R10.cell 1 0 rfl rfl) (And.intro (R10.cell 1 1 rfl rfl) (And.intro (R10.cell 1 2 rfl rfl) (R10.cell 1 3 rfl rfl)))))))
        refine hK.out _ _ (fun _ => s10) ?_
        clear hK K
        try simp only [Act.put, List.setIfInBounds_toArray, List.set_cons_zero, List.set_cons_succ]
        generalize ((((w9.setCell ⟨w4.heap.size, 0, none⟩ (.bool b_fl)).setCell ⟨w4.heap.size, 1, none⟩ (.slice A_fl n_fl n_fl)).setCell ⟨w4.heap.size, 2, none⟩ (.bool b_zed)).setCell ⟨w4.heap.size, 3, none⟩ (.slice A_zed n_zed c_zed)) = w10 at *
        refine wpAnyL_done (by kernel_rfl) ?_ _
        go_wp2_with fail
        go_meet
        exact ⟨_, _, _, _, rfl, R10⟩
    case rest =>
      obtain ⟨g_f, b_fl, A_fl, n_fl, rfl, R110⟩ := hcut
      go_upto_region 7 with (fail)
      go_cut [5] (fun p_ wx => ∃ (g_c : Nat) (b_ce : Bool) (A_ce : Option Addr) (n_ce : Nat), p_ = .pointer (some ⟨g_c, 0, none⟩) ∧ Env w wx [(g_c, 26, #[.bool b_ce, .slice A_ce n_ce n_ce, .bool b_zed, .slice A_zed n_zed c_zed]), (g_f, 26, #[.bool b_fl, .slice A_fl n_fl n_fl, .bool b_zed, .slice A_zed n_zed c_zed]), (w3.heap.size, 26, #[.bool b_zen, .slice A_zen n_zen c_zen, .bool b_zed, .slice A_zed n_zed c_zed]), (w.heap.size, 26, #[.bool ba, .slice Aa na ca, .bool ba', .slice Aa' na' ca'])] [⟨b_ce, A_ce, n_ce, n_ce, ra.ceil, 4, true⟩, ⟨b_fl, A_fl, n_fl, n_fl, ra.floor, 4, true⟩, ⟨b_zed, A_zed, n_zed, c_zed, ((((0 : Rat)).den : Nat) : Int), 1, true⟩, ⟨b_zen, A_zen, n_zen, c_zen, ((0 : Rat)).num, 1, true⟩, ⟨ba', Aa', na', ca', ya, 4, false⟩, ⟨ba, Aa, na, ca, xa, 4, false⟩])
      case first =>
        have R111 := R110.drew
        refine wp_region_late [] (fun w' => w'.cell? ⟨w.heap.size, 0, none⟩ = some (.bool ba) ∧ w'.cell? ⟨w.heap.size, 1, none⟩ = some (.slice Aa na ca) ∧ w'.cell? ⟨w.heap.size, 2, none⟩ = some (.bool ba') ∧ w'.cell? ⟨w.heap.size, 3, none⟩ = some (.slice Aa' na' ca') ∧ w'.cell? ⟨w3.heap.size, 0, none⟩ = some (.bool b_zen) ∧ w'.cell? ⟨w3.heap.size, 1, none⟩ = some (.slice A_zen n_zen c_zen) ∧ w'.cell? ⟨w3.heap.size, 2, none⟩ = some (.bool b_zed) ∧ w'.cell? ⟨w3.heap.size, 3, none⟩ = some (.slice A_zed n_zed c_zed)) (by kernel_rfl) ?_
        generalize hgw : World.drew _ = w111 at *
        clear hgw
        have s111 := And.intro (R111.cell 2 0 rfl rfl) (And.intro (R111.cell 2 1 rfl rfl) (And.intro (R111.cell 2 2 rfl rfl) (And.intro (R111.cell 2 3 rfl rfl) (And.intro (R111.cell 1 0 rfl rfl) (And.intro (R111.cell 1 1 rfl rfl) (And.intro (R111.cell 1 2 rfl rfl) (R111.cell 1 3 rfl rfl)))))))
        refine wpAnyL_take (i := 0) (v := ?_) rfl (by kernel_rfl) (by kernel_rfl) (by kernel_rfl) (by kernel_rfl) (by kernel_rfl) (fun _ _ _ h => h) (Or.inl ⟨by kernel_rfl, ?_⟩) s111 ?_
        rotate_left
        · rintro w' ⟨h1, h2, h3, h4, h5, h6, h7, h8⟩; go_simp; (try with_reducible rfl)
        try simp only [Act.put, List.setIfInBounds_toArray, List.set_cons_zero, List.set_cons_succ]
        refine wpAnyL_take (i := 2) (v := ?_) rfl (by kernel_rfl) (by kernel_rfl) (by kernel_rfl) (by kernel_rfl) (by kernel_rfl) (fun _ _ _ h => h) (Or.inl ⟨by kernel_rfl, ?_⟩) s111 ?_
        rotate_left
        · rintro w' ⟨h1, h2, h3, h4, h5, h6, h7, h8⟩; go_simp; (try with_reducible rfl)
        try simp only [Act.put, List.setIfInBounds_toArray, List.set_cons_zero, List.set_cons_succ]
        refine wpAnyL_take (i := 3) (v := ?_) rfl (by kernel_rfl) (by kernel_rfl) (by kernel_rfl) (by kernel_rfl) (by kernel_rfl) (fun _ _ _ h => h) (Or.inl ⟨by kernel_rfl, ?_⟩) s111 ?_
        rotate_left
        · rintro w' ⟨h1, h2, h3, h4, h5, h6, h7, h8⟩; go_simp; (try with_reducible rfl)
        try simp only [Act.put, List.setIfInBounds_toArray, List.set_cons_zero, List.set_cons_succ]
        refine wpAnyL_all (rs := [1, 5]) (by kernel_rfl) (by simp) (StepsL.cons (i := 1) rfl (fun K hK => ?_) (StepsL.cons (i := 5) rfl (fun K hK => ?_) StepsL.nil))
        · go_simp
          refine (qceil (k := 4) (R111.z 4 rfl) (R111.z 3 rfl) (by decide) (by decide) (by decide) (by decide) Ha.out).mono ?_; rintro e w112 ⟨b_ce, A_ce, n_ce, rfl, z_ce, hb112⟩
          have R112 := ((R111.below hb112).add z_ce)
          have s112 := And.intro (R112.cell 2 0 rfl rfl) (And.intro (R112.cell 2 1 rfl rfl) (And.intro (R112.cell 2 2 rfl rfl) (And.intro (R112.cell 2 3 rfl rfl) (And.intro (R112.cell 1 0 rfl rfl) (And.intro (R112.cell 1 1 rfl rfl) (And.intro (R112.cell 1 2 rfl rfl) (R112.cell 1 3 rfl rfl)))))))
          go_wp2_with fail
          refine hK.out _ _ (fun _ => s112) ?_
          clear hK K
          try simp only [Act.put, List.setIfInBounds_toArray, List.set_cons_zero, List.set_cons_succ]
          refine wpAnyL_take (i := 4) (v := ?_) rfl (by kernel_rfl) (by kernel_rfl) (by kernel_rfl) (by kernel_rfl) (by kernel_rfl) (fun _ _ _ h => h) (Or.inl ⟨by kernel_rfl, ?_⟩) s112 ?_
          rotate_left
          · rintro w' ⟨h1, h2, h3, h4, h5, h6, h7, h8⟩; go_simp; (try with_reducible rfl)
          try simp only [Act.put, List.setIfInBounds_toArray, List.set_cons_zero, List.set_cons_succ]
          refine wpAnyL_one (i := 5) (by kernel_rfl) rfl (fun K hK => ?_)
          go_simp
          have R113 := R112.alloc 26 #[.bool false, .slice none 0 0, .bool false, .slice none 0 0] (g := w112.heap.size) rfl rfl
          have s113 := And.intro (R113.cell 3 0 rfl rfl) (And.intro (R113.cell 3 1 rfl rfl) (And.intro (R113.cell 3 2 rfl rfl) (And.intro (R113.cell 3 3 rfl rfl) (And.intro (R113.cell 2 0 rfl rfl) (And.intro (R113.cell 2 1 rfl rfl) (And.intro (R113.cell 2 2 rfl rfl) (R113.cell 2 3 rfl rfl)))))))
          refine hK.out _ _ (fun _ => s113) ?_
          clear hK K
          try simp only [Act.put, List.setIfInBounds_toArray, List.set_cons_zero, List.set_cons_succ]
          generalize (w112.alloc (.cells #[.bool false, .slice none 0 0, .bool false, .slice none 0 0] 26)) = w113 at *
          refine wpAnyL_one (i := 6) (by kernel_rfl) rfl (fun K hK => ?_)
          have fc0 := R113.cell 0 0 rfl rfl
          have ff0 := R113.frozen 0 0 rfl
          have fc1 := R113.cell 0 1 rfl rfl
          have ff1 := R113.frozen 0 1 rfl
          have fc2 := R113.cell 0 2 rfl rfl
          have ff2 := R113.frozen 0 2 rfl
          have fc3 := R113.cell 0 3 rfl rfl
          have ff3 := R113.frozen 0 3 rfl
          go_simp
          clear fc0 ff0 fc1 ff1 fc2 ff2 fc3 ff3
          have R114 := R113.st4 0 (.bool b_ce) (.slice A_ce n_ce n_ce) (.bool b_zed) (.slice A_zed n_zed c_zed) rfl rfl rfl rfl rfl
          have s114 := And.intro (R114.cell 3 0 rfl rfl) (And.intro (R114.cell 3 1 rfl rfl) (And.intro (R114.cell 3 2 rfl rfl) (And.intro (R114.cell 3 3 rfl rfl) (And.intro (R114.cell 2 0 rfl rfl) (And.intro (R114.cell 2 1 rfl rfl) (And.intro (R114.cell 2 2 rfl rfl) (R114.cell 2 3 rfl rfl)))))))
          refine hK.out _ _ (fun _ => s114) ?_
          clear hK K
          try simp only [Act.put, List.setIfInBounds_toArray, List.set_cons_zero, List.set_cons_succ]
          generalize ((((w113.setCell ⟨w112.heap.size, 0, none⟩ (.bool b_ce)).setCell ⟨w112.heap.size, 1, none⟩ (.slice A_ce n_ce n_ce)).setCell ⟨w112.heap.size, 2, none⟩ (.bool b_zed)).setCell ⟨w112.heap.size, 3, none⟩ (.slice A_zed n_zed c_zed)) = w114 at *
          refine wpAnyL_done (by kernel_rfl) ?_ _
          go_wp2_with fail
          go_meet
          exact ⟨_, _, _, _, rfl, R114⟩
        · go_simp
          have R115 := R111.alloc 26 #[.bool false, .slice none 0 0, .bool false, .slice none 0 0] (g := w111.heap.size) rfl rfl
          have s115 := And.intro (R115.cell 3 0 rfl rfl) (And.intro (R115.cell 3 1 rfl rfl) (And.intro (R115.cell 3 2 rfl rfl) (And.intro (R115.cell 3 3 rfl rfl) (And.intro (R115.cell 2 0 rfl rfl) (And.intro (R115.cell 2 1 rfl rfl) (And.intro (R115.cell 2 2 rfl rfl) (R115.cell 2 3 rfl rfl)))))))
          refine hK.out _ _ (fun _ => s115) ?_
          clear hK K
          try simp only [Act.put, List.setIfInBounds_toArray, List.set_cons_zero, List.set_cons_succ]
          generalize (w111.alloc (.cells #[.bool false, .slice none 0 0, .bool false, .slice none 0 0] 26)) = w115 at *
          refine wpAnyL_one (i := 1) (by kernel_rfl) rfl (fun K hK => ?_)
          go_simp
          refine (qceil (k := 4) (R115.z 4 rfl) (R115.z 3 rfl) (by decide) (by decide) (by decide) (by decide) Ha.out).mono ?_; rintro e w116 ⟨b_ce, A_ce, n_ce, rfl, z_ce, hb116⟩
          have R116 := ((R115.below hb116).add z_ce)
          have s116 := And.intro (R116.cell 3 0 rfl rfl) (And.intro (R116.cell 3 1 rfl rfl) (And.intro (R116.cell 3 2 rfl rfl) (And.intro (R116.cell 3 3 rfl rfl) (And.intro (R116.cell 2 0 rfl rfl) (And.intro (R116.cell 2 1 rfl rfl) (And.intro (R116.cell 2 2 rfl rfl) (R116.cell 2 3 rfl rfl)))))))
          go_wp2_with fail
          refine hK.out _ _ (fun _ => s116) ?_
          clear hK K
          try simp only [Act.put, List.setIfInBounds_toArray, List.set_cons_zero, List.set_cons_succ]
          refine wpAnyL_take (i := 4) (v := ?_) rfl (by kernel_rfl) (by kernel_rfl) (by kernel_rfl) (by kernel_rfl) (by kernel_rfl) (fun _ _ _ h => h) (Or.inl ⟨by kernel_rfl, ?_⟩) s116 ?_
          rotate_left
          · rintro w' ⟨h1, h2, h3, h4, h5, h6, h7, h8⟩; go_simp; (try with_reducible rfl)
          try simp only [Act.put, List.setIfInBounds_toArray, List.set_cons_zero, List.set_cons_succ]
          refine wpAnyL_one (i := 6) (by kernel_rfl) rfl (fun K hK => ?_)
          have fc0 := R116.cell 0 0 rfl rfl
          have ff0 := R116.frozen 0 0 rfl
          have fc1 := R116.cell 0 1 rfl rfl
          have ff1 := R116.frozen 0 1 rfl
          have fc2 := R116.cell 0 2 rfl rfl
          have ff2 := R116.frozen 0 2 rfl
          have fc3 := R116.cell 0 3 rfl rfl
          have ff3 := R116.frozen 0 3 rfl
          go_simp
          clear fc0 ff0 fc1 ff1 fc2 ff2 fc3 ff3
          have R117 := R116.st4 0 (.bool b_ce) (.slice A_ce n_ce n_ce) (.bool b_zed) (.slice A_zed n_zed c_zed) rfl rfl rfl rfl rfl
          have s117 := And.intro (R117.cell 3 0 rfl rfl) (And.intro (R117.cell 3 1 rfl rfl) (And.intro (R117.cell 3 2 rfl rfl) (And.intro (R117.cell 3 3 rfl rfl) (And.intro (R117.cell 2 0 rfl rfl) (And.intro (R117.cell 2 1 rfl rfl) (And.intro (R117.cell 2 2 rfl rfl) (R117.cell 2 3 rfl rfl)))))))
          refine hK.out _ _ (fun _ => s117) ?_
          clear hK K
          try simp only [Act.put, List.setIfInBounds_toArray, List.set_cons_zero, List.set_cons_succ]
          generalize ((((w116.setCell ⟨w111.heap.size, 0, none⟩ (.bool b_ce)).setCell ⟨w111.heap.size, 1, none⟩ (.slice A_ce n_ce n_ce)).setCell ⟨w111.heap.size, 2, none⟩ (.bool b_zed)).setCell ⟨w111.heap.size, 3, none⟩ (.slice A_zed n_zed c_zed)) = w117 at *
          refine wpAnyL_done (by kernel_rfl) ?_ _
          go_wp2_with fail
          go_meet
          exact ⟨_, _, _, _, rfl, R117⟩
      case rest =>
        obtain ⟨g_c, b_ce, A_ce, n_ce, rfl, R217⟩ := hcut
        have k218ze0 := R217.cell 2 0 rfl rfl
        have k218ze1 := R217.cell 2 1 rfl rfl
        have k218ze2 := R217.cell 2 2 rfl rfl
        have k218ze3 := R217.cell 2 3 rfl rfl
        have k218a0 := R217.cell 3 0 rfl rfl
        have k218a1 := R217.cell 3 1 rfl rfl
        have k218a2 := R217.cell 3 2 rfl rfl
        have k218a3 := R217.cell 3 3 rfl rfl
        go_wp2_with fail
        clear k218ze0 k218ze1 k218ze2 k218ze3 k218a0 k218a1 k218a2 k218a3
        refine (qsub (k := 4) (R217.z 3 rfl) (R217.z 2 rfl) (R217.z 5 rfl) (R217.z 4 rfl) (by decide) (by decide) (by decide) (by decide) (by decide) (by decide) (qv_self (0)) Ha.out).mono ?_; rintro e w218 ⟨b_min, A_min, n_min, b_mid, A_mid, n_mid, rfl, z_min, z_mid, hb218⟩
        have R218 := ((((R217.below hb218).add z_min).add z_mid).alloc 26 #[.bool b_min, .slice A_min n_min n_min, .bool b_mid, .slice A_mid n_mid n_mid] (g := w218.heap.size) rfl rfl)
        clear z_min z_mid hb218 R217
        go_wp2_with fail
        refine (qof 1 1 ⟨by decide, by decide⟩ ⟨by decide, by decide⟩ _ qone_of (by decide : decide ((1 : Int) ≠ 0) = true)).mono ?_; rintro e w219 ⟨b_onen, A_onen, n_onen, b_oned, A_oned, n_oned, rfl, z_onen, z_oned, hb219⟩
        have R219 := ((((R218.below hb219).add z_onen).add z_oned).alloc 26 #[.bool b_onen, .slice A_onen n_onen n_onen, .bool b_oned, .slice A_oned n_oned n_oned] (g := w219.heap.size) rfl rfl)
        clear z_onen z_oned hb219 R218
        go_wp2_with fail
        have D220 := R219.drew
        have s220 := And.intro (D220.cell 5 0 rfl rfl) (And.intro (D220.cell 5 1 rfl rfl) (And.intro (D220.cell 5 2 rfl rfl) (And.intro (D220.cell 5 3 rfl rfl) (And.intro (D220.cell 4 0 rfl rfl) (And.intro (D220.cell 4 1 rfl rfl) (And.intro (D220.cell 4 2 rfl rfl) (D220.cell 4 3 rfl rfl)))))))
        refine wp_region_late [] (fun w' => w'.cell? ⟨w.heap.size, 0, none⟩ = some (.bool ba) ∧ w'.cell? ⟨w.heap.size, 1, none⟩ = some (.slice Aa na ca) ∧ w'.cell? ⟨w.heap.size, 2, none⟩ = some (.bool ba') ∧ w'.cell? ⟨w.heap.size, 3, none⟩ = some (.slice Aa' na' ca') ∧ w'.cell? ⟨w3.heap.size, 0, none⟩ = some (.bool b_zen) ∧ w'.cell? ⟨w3.heap.size, 1, none⟩ = some (.slice A_zen n_zen c_zen) ∧ w'.cell? ⟨w3.heap.size, 2, none⟩ = some (.bool b_zed) ∧ w'.cell? ⟨w3.heap.size, 3, none⟩ = some (.slice A_zed n_zed c_zed)) (by kernel_rfl) ?_
        refine wpAnyL_take (i := 0) (v := ?_) rfl (by kernel_rfl) (by kernel_rfl) (by kernel_rfl) (by kernel_rfl) (by kernel_rfl) (fun _ _ _ h => h) (Or.inl ⟨by kernel_rfl, ?_⟩) s220 ?_
        rotate_left
        · rintro w' ⟨h1, h2, h3, h4, h5, h6, h7, h8⟩; go_simp; (try with_reducible rfl)
        try simp only [Act.put, List.getElem_toArray, List.getElem_cons_succ, List.getElem_cons_zero, List.setIfInBounds_toArray, List.set_cons_zero, List.set_cons_succ]
        refine wpAnyL_take (i := 2) (v := ?_) rfl (by kernel_rfl) (by kernel_rfl) (by kernel_rfl) (by kernel_rfl) (by kernel_rfl) (fun _ _ _ h => h) (Or.inl ⟨by kernel_rfl, ?_⟩) s220 ?_
        rotate_left
        · rintro w' ⟨h1, h2, h3, h4, h5, h6, h7, h8⟩; go_simp; (try with_reducible rfl)
        try simp only [Act.put, List.getElem_toArray, List.getElem_cons_succ, List.getElem_cons_zero, List.setIfInBounds_toArray, List.set_cons_zero, List.set_cons_succ]
        refine wpAnyL_one (i := 1) (by kernel_rfl) rfl (fun K hK => ?_)
        go_simp
        refine (qfrac_ (k := 4) (D220.z 9 rfl) (D220.z 8 rfl) (by decide) (by decide) (by decide) (by decide) Ha.out).mono ?_; rintro e w221 ⟨b_frn, A_frn, n_frn, b_frd, A_frd, n_frd, rfl, z_frn, z_frd, hb221⟩
        have R221 := (((D220.below hb221).add z_frn).add z_frd)
        have s221 := And.intro (R221.cell 5 0 rfl rfl) (And.intro (R221.cell 5 1 rfl rfl) (And.intro (R221.cell 5 2 rfl rfl) (And.intro (R221.cell 5 3 rfl rfl) (And.intro (R221.cell 4 0 rfl rfl) (And.intro (R221.cell 4 1 rfl rfl) (And.intro (R221.cell 4 2 rfl rfl) (R221.cell 4 3 rfl rfl)))))))
        clear z_frn z_frd hb221 D220 s220
        go_wp2_with fail
        refine hK.out _ _ (fun _ => s221) ?_
        clear hK K
        try simp only [Act.put, List.getElem_toArray, List.getElem_cons_succ, List.getElem_cons_zero, List.setIfInBounds_toArray, List.set_cons_zero, List.set_cons_succ]
        refine wpAnyL_one (i := 3) (by kernel_rfl) rfl (fun K hK => ?_)
        go_simp
        refine (qcmp_ (k := 9) (R221.z 1 rfl) (R221.z 0 rfl) (R221.z 9 rfl) (R221.z 8 rfl) (by decide) (by decide) (by decide) (by decide) (by decide) (by decide) (qv_self ((qfrac ra))) (qv_self (0)) HC.out).mono ?_; rintro e w222 ⟨rfl, hb222⟩
        have R222 := (R221.below hb222)
        have s222 := And.intro (R222.cell 5 0 rfl rfl) (And.intro (R222.cell 5 1 rfl rfl) (And.intro (R222.cell 5 2 rfl rfl) (And.intro (R222.cell 5 3 rfl rfl) (And.intro (R222.cell 4 0 rfl rfl) (And.intro (R222.cell 4 1 rfl rfl) (And.intro (R222.cell 4 2 rfl rfl) (R222.cell 4 3 rfl rfl)))))))
        clear hb222 R221 s221
        go_wp2_with fail
        refine hK.out _ _ (fun _ => s222) ?_
        clear hK K
        try simp only [Act.put, List.getElem_toArray, List.getElem_cons_succ, List.getElem_cons_zero, List.setIfInBounds_toArray, List.set_cons_zero, List.set_cons_succ]
        refine wpAnyL_take (i := 4) (v := ?_) rfl (by kernel_rfl) (by kernel_rfl) (by kernel_rfl) (by kernel_rfl) (by kernel_rfl) (fun _ _ _ h => h) (Or.inl ⟨by kernel_rfl, ?_⟩) s222 ?_
        rotate_left
        · rintro w' ⟨h1, h2, h3, h4, h5, h6, h7, h8⟩; go_simp; (try with_reducible rfl)
        try simp only [Act.put, List.getElem_toArray, List.getElem_cons_succ, List.getElem_cons_zero, List.setIfInBounds_toArray, List.set_cons_zero, List.set_cons_succ]
        refine wpAnyL_one (i := 5) (by kernel_rfl) rfl (fun K hK => ?_)
        go_simp
        refine hK.out _ _ (fun _ => s222) ?_
        clear hK K
        try simp only [Act.put, List.getElem_toArray, List.getElem_cons_succ, List.getElem_cons_zero, List.setIfInBounds_toArray, List.set_cons_zero, List.set_cons_succ]
        refine wpAnyL_done (by kernel_rfl) ?_ _
        go_upto_region 11 with (fail)
        go_cut [10] (fun p_ wx => ∃ (g_g : Nat) (b_gl : Bool) (A_gl : Option Addr) (n_gl : Nat), p_ = .pointer (some ⟨g_g, 0, none⟩) ∧ Env w wx [(g_g, 26, #[.bool b_gl, .slice A_gl n_gl n_gl, .bool b_zed, .slice A_zed n_zed c_zed]), (w219.heap.size, 26, #[.bool b_onen, .slice A_onen n_onen n_onen, .bool b_oned, .slice A_oned n_oned n_oned]), (w218.heap.size, 26, #[.bool b_min, .slice A_min n_min n_min, .bool b_mid, .slice A_mid n_mid n_mid]), (g_c, 26, #[.bool b_ce, .slice A_ce n_ce n_ce, .bool b_zed, .slice A_zed n_zed c_zed]), (g_f, 26, #[.bool b_fl, .slice A_fl n_fl n_fl, .bool b_zed, .slice A_zed n_zed c_zed]), (w3.heap.size, 26, #[.bool b_zen, .slice A_zen n_zen c_zen, .bool b_zed, .slice A_zed n_zed c_zed]), (w.heap.size, 26, #[.bool ba, .slice Aa na ca, .bool ba', .slice Aa' na' ca'])] [⟨b_gl, A_gl, n_gl, n_gl, (0 - ra).floor, 9, true⟩, ⟨b_frd, A_frd, n_frd, n_frd, (((((qfrac ra) : Rat)).den : Nat) : Int), 9, true⟩, ⟨b_frn, A_frn, n_frn, n_frn, (((qfrac ra) : Rat)).num, 9, true⟩, ⟨b_oned, A_oned, n_oned, n_oned, ((((1 : Rat)).den : Nat) : Int), 2, true⟩, ⟨b_onen, A_onen, n_onen, n_onen, ((1 : Rat)).num, 2, true⟩, ⟨b_mid, A_mid, n_mid, n_mid, (((((0 - ra) : Rat)).den : Nat) : Int), 9, true⟩, ⟨b_min, A_min, n_min, n_min, (((0 - ra) : Rat)).num, 9, true⟩, ⟨b_ce, A_ce, n_ce, n_ce, ra.ceil, 4, true⟩, ⟨b_fl, A_fl, n_fl, n_fl, ra.floor, 4, true⟩, ⟨b_zed, A_zed, n_zed, c_zed, ((((0 : Rat)).den : Nat) : Int), 1, true⟩, ⟨b_zen, A_zen, n_zen, c_zen, ((0 : Rat)).num, 1, true⟩, ⟨ba', Aa', na', ca', ya, 4, false⟩, ⟨ba, Aa, na, ca, xa, 4, false⟩])
        case first =>
          have R223 := R222.drew
          refine wp_region_late [] (fun w' => w'.cell? ⟨w218.heap.size, 0, none⟩ = some (.bool b_min) ∧ w'.cell? ⟨w218.heap.size, 1, none⟩ = some (.slice A_min n_min n_min) ∧ w'.cell? ⟨w218.heap.size, 2, none⟩ = some (.bool b_mid) ∧ w'.cell? ⟨w218.heap.size, 3, none⟩ = some (.slice A_mid n_mid n_mid) ∧ w'.cell? ⟨w3.heap.size, 0, none⟩ = some (.bool b_zen) ∧ w'.cell? ⟨w3.heap.size, 1, none⟩ = some (.slice A_zen n_zen c_zen) ∧ w'.cell? ⟨w3.heap.size, 2, none⟩ = some (.bool b_zed) ∧ w'.cell? ⟨w3.heap.size, 3, none⟩ = some (.slice A_zed n_zed c_zed)) (by kernel_rfl) ?_
          generalize hgw : World.drew _ = w223 at *
          clear hgw
          have s223 := And.intro (R223.cell 1 0 rfl rfl) (And.intro (R223.cell 1 1 rfl rfl) (And.intro (R223.cell 1 2 rfl rfl) (And.intro (R223.cell 1 3 rfl rfl) (And.intro (R223.cell 4 0 rfl rfl) (And.intro (R223.cell 4 1 rfl rfl) (And.intro (R223.cell 4 2 rfl rfl) (R223.cell 4 3 rfl rfl)))))))
          refine wpAnyL_take (i := 0) (v := ?_) rfl (by kernel_rfl) (by kernel_rfl) (by kernel_rfl) (by kernel_rfl) (by kernel_rfl) (fun _ _ _ h => h) (Or.inl ⟨by kernel_rfl, ?_⟩) s223 ?_
          rotate_left
          · rintro w' ⟨h1, h2, h3, h4, h5, h6, h7, h8⟩; go_simp; (try with_reducible rfl)
          try simp only [Act.put, List.setIfInBounds_toArray, List.set_cons_zero, List.set_cons_succ]
          refine wpAnyL_take (i := 2) (v := ?_) rfl (by kernel_rfl) (by kernel_rfl) (by kernel_rfl) (by kernel_rfl) (by kernel_rfl) (fun _ _ _ h => h) (Or.inl ⟨by kernel_rfl, ?_⟩) s223 ?_
          rotate_left
          · rintro w' ⟨h1, h2, h3, h4, h5, h6, h7, h8⟩; go_simp; (try with_reducible rfl)
          try simp only [Act.put, List.setIfInBounds_toArray, List.set_cons_zero, List.set_cons_succ]
          refine wpAnyL_take (i := 3) (v := ?_) rfl (by kernel_rfl) (by kernel_rfl) (by kernel_rfl) (by kernel_rfl) (by kernel_rfl) (fun _ _ _ h => h) (Or.inl ⟨by kernel_rfl, ?_⟩) s223 ?_
          rotate_left
          · rintro w' ⟨h1, h2, h3, h4, h5, h6, h7, h8⟩; go_simp; (try with_reducible rfl)
          try simp only [Act.put, List.setIfInBounds_toArray, List.set_cons_zero, List.set_cons_succ]
          refine wpAnyL_all (rs := [1, 5]) (by kernel_rfl) (by simp) (StepsL.cons (i := 1) rfl (fun K hK => ?_) (StepsL.cons (i := 5) rfl (fun K hK => ?_) StepsL.nil))
          · go_simp
            refine (qfloor (k := 9) (R223.z 5 rfl) (R223.z 4 rfl) (by decide) (by decide) (by decide) (by decide) (qv_self ((0 - ra)))).mono ?_; rintro e w224 ⟨b_gl, A_gl, n_gl, rfl, z_gl, hb224⟩
            have R224 := ((R223.below hb224).add z_gl)
            have s224 := And.intro (R224.cell 1 0 rfl rfl) (And.intro (R224.cell 1 1 rfl rfl) (And.intro (R224.cell 1 2 rfl rfl) (And.intro (R224.cell 1 3 rfl rfl) (And.intro (R224.cell 4 0 rfl rfl) (And.intro (R224.cell 4 1 rfl rfl) (And.intro (R224.cell 4 2 rfl rfl) (R224.cell 4 3 rfl rfl)))))))
            go_wp2_with fail
            refine hK.out _ _ (fun _ => s224) ?_
            clear hK K
            try simp only [Act.put, List.setIfInBounds_toArray, List.set_cons_zero, List.set_cons_succ]
            refine wpAnyL_take (i := 4) (v := ?_) rfl (by kernel_rfl) (by kernel_rfl) (by kernel_rfl) (by kernel_rfl) (by kernel_rfl) (fun _ _ _ h => h) (Or.inl ⟨by kernel_rfl, ?_⟩) s224 ?_
            rotate_left
            · rintro w' ⟨h1, h2, h3, h4, h5, h6, h7, h8⟩; go_simp; (try with_reducible rfl)
            try simp only [Act.put, List.setIfInBounds_toArray, List.set_cons_zero, List.set_cons_succ]
            refine wpAnyL_one (i := 5) (by kernel_rfl) rfl (fun K hK => ?_)
            go_simp
            have R225 := R224.alloc 26 #[.bool false, .slice none 0 0, .bool false, .slice none 0 0] (g := w224.heap.size) rfl rfl
            have s225 := And.intro (R225.cell 2 0 rfl rfl) (And.intro (R225.cell 2 1 rfl rfl) (And.intro (R225.cell 2 2 rfl rfl) (And.intro (R225.cell 2 3 rfl rfl) (And.intro (R225.cell 5 0 rfl rfl) (And.intro (R225.cell 5 1 rfl rfl) (And.intro (R225.cell 5 2 rfl rfl) (R225.cell 5 3 rfl rfl)))))))
            refine hK.out _ _ (fun _ => s225) ?_
            clear hK K
            try simp only [Act.put, List.setIfInBounds_toArray, List.set_cons_zero, List.set_cons_succ]
            generalize (w224.alloc (.cells #[.bool false, .slice none 0 0, .bool false, .slice none 0 0] 26)) = w225 at *
            refine wpAnyL_one (i := 6) (by kernel_rfl) rfl (fun K hK => ?_)
            have fc0 := R225.cell 0 0 rfl rfl
            have ff0 := R225.frozen 0 0 rfl
            have fc1 := R225.cell 0 1 rfl rfl
            have ff1 := R225.frozen 0 1 rfl
            have fc2 := R225.cell 0 2 rfl rfl
            have ff2 := R225.frozen 0 2 rfl
            have fc3 := R225.cell 0 3 rfl rfl
            have ff3 := R225.frozen 0 3 rfl
            go_simp
            clear fc0 ff0 fc1 ff1 fc2 ff2 fc3 ff3
            have R226 := R225.st4 0 (.bool b_gl) (.slice A_gl n_gl n_gl) (.bool b_zed) (.slice A_zed n_zed c_zed) rfl rfl rfl rfl rfl
            have s226 := And.intro (R226.cell 2 0 rfl rfl) (And.intro (R226.cell 2 1 rfl rfl) (And.intro (R226.cell 2 2 rfl rfl) (And.intro (R226.cell 2 3 rfl rfl) (And.intro (R226.cell 5 0 rfl rfl) (And.intro (R226.cell 5 1 rfl rfl) (And.intro (R226.cell 5 2 rfl rfl) (R226.cell 5 3 rfl rfl)))))))
            refine hK.out _ _ (fun _ => s226) ?_
            clear hK K
            try simp only [Act.put, List.setIfInBounds_toArray, List.set_cons_zero, List.set_cons_succ]
            generalize ((((w225.setCell ⟨w224.heap.size, 0, none⟩ (.bool b_gl)).setCell ⟨w224.heap.size, 1, none⟩ (.slice A_gl n_gl n_gl)).setCell ⟨w224.heap.size, 2, none⟩ (.bool b_zed)).setCell ⟨w224.heap.size, 3, none⟩ (.slice A_zed n_zed c_zed)) = w226 at *
            refine wpAnyL_done (by kernel_rfl) ?_ _
            go_wp2_with fail
            go_meet
            exact ⟨_, _, _, _, rfl, R226⟩
          · go_simp
            have R227 := R223.alloc 26 #[.bool false, .slice none 0 0, .bool false, .slice none 0 0] (g := w223.heap.size) rfl rfl
            have s227 := And.intro (R227.cell 2 0 rfl rfl) (And.intro (R227.cell 2 1 rfl rfl) (And.intro (R227.cell 2 2 rfl rfl) (And.intro (R227.cell 2 3 rfl rfl) (And.intro (R227.cell 5 0 rfl rfl) (And.intro (R227.cell 5 1 rfl rfl) (And.intro (R227.cell 5 2 rfl rfl) (R227.cell 5 3 rfl rfl)))))))
            refine hK.out _ _ (fun _ => s227) ?_
            clear hK K
            try simp only [Act.put, List.setIfInBounds_toArray, List.set_cons_zero, List.set_cons_succ]
            generalize (w223.alloc (.cells #[.bool false, .slice none 0 0, .bool false, .slice none 0 0] 26)) = w227 at *
            refine wpAnyL_one (i := 1) (by kernel_rfl) rfl (fun K hK => ?_)
            go_simp
            refine (qfloor (k := 9) (R227.z 5 rfl) (R227.z 4 rfl) (by decide) (by decide) (by decide) (by decide) (qv_self ((0 - ra)))).mono ?_; rintro e w228 ⟨b_gl, A_gl, n_gl, rfl, z_gl, hb228⟩
            have R228 := ((R227.below hb228).add z_gl)
            have s228 := And.intro (R228.cell 2 0 rfl rfl) (And.intro (R228.cell 2 1 rfl rfl) (And.intro (R228.cell 2 2 rfl rfl) (And.intro (R228.cell 2 3 rfl rfl) (And.intro (R228.cell 5 0 rfl rfl) (And.intro (R228.cell 5 1 rfl rfl) (And.intro (R228.cell 5 2 rfl rfl) (R228.cell 5 3 rfl rfl)))))))
            go_wp2_with fail
            refine hK.out _ _ (fun _ => s228) ?_
            clear hK K
            try simp only [Act.put, List.setIfInBounds_toArray, List.set_cons_zero, List.set_cons_succ]
            refine wpAnyL_take (i := 4) (v := ?_) rfl (by kernel_rfl) (by kernel_rfl) (by kernel_rfl) (by kernel_rfl) (by kernel_rfl) (fun _ _ _ h => h) (Or.inl ⟨by kernel_rfl, ?_⟩) s228 ?_
            rotate_left
            · rintro w' ⟨h1, h2, h3, h4, h5, h6, h7, h8⟩; go_simp; (try with_reducible rfl)
            try simp only [Act.put, List.setIfInBounds_toArray, List.set_cons_zero, List.set_cons_succ]
            refine wpAnyL_one (i := 6) (by kernel_rfl) rfl (fun K hK => ?_)
            have fc0 := R228.cell 0 0 rfl rfl
            have ff0 := R228.frozen 0 0 rfl
            have fc1 := R228.cell 0 1 rfl rfl
            have ff1 := R228.frozen 0 1 rfl
            have fc2 := R228.cell 0 2 rfl rfl
            have ff2 := R228.frozen 0 2 rfl
            have fc3 := R228.cell 0 3 rfl rfl
            have ff3 := R228.frozen 0 3 rfl
            go_simp
            clear fc0 ff0 fc1 ff1 fc2 ff2 fc3 ff3
            have R229 := R228.st4 0 (.bool b_gl) (.slice A_gl n_gl n_gl) (.bool b_zed) (.slice A_zed n_zed c_zed) rfl rfl rfl rfl rfl
            have s229 := And.intro (R229.cell 2 0 rfl rfl) (And.intro (R229.cell 2 1 rfl rfl) (And.intro (R229.cell 2 2 rfl rfl) (And.intro (R229.cell 2 3 rfl rfl) (And.intro (R229.cell 5 0 rfl rfl) (And.intro (R229.cell 5 1 rfl rfl) (And.intro (R229.cell 5 2 rfl rfl) (R229.cell 5 3 rfl rfl)))))))
            refine hK.out _ _ (fun _ => s229) ?_
            clear hK K
            try simp only [Act.put, List.setIfInBounds_toArray, List.set_cons_zero, List.set_cons_succ]
            generalize ((((w228.setCell ⟨w223.heap.size, 0, none⟩ (.bool b_gl)).setCell ⟨w223.heap.size, 1, none⟩ (.slice A_gl n_gl n_gl)).setCell ⟨w223.heap.size, 2, none⟩ (.bool b_zed)).setCell ⟨w223.heap.size, 3, none⟩ (.slice A_zed n_zed c_zed)) = w229 at *
            refine wpAnyL_done (by kernel_rfl) ?_ _
            go_wp2_with fail
            go_meet
            exact ⟨_, _, _, _, rfl, R229⟩
        case rest =>
          obtain ⟨g_g, b_gl, A_gl, n_gl, rfl, R329⟩ := hcut
          go_wp2_with fail
          have D330 := R329.drew
          have s330 := And.intro (D330.cell 5 0 rfl rfl) (And.intro (D330.cell 5 1 rfl rfl) (And.intro (D330.cell 5 2 rfl rfl) (And.intro (D330.cell 5 3 rfl rfl) (And.intro (D330.cell 3 0 rfl rfl) (And.intro (D330.cell 3 1 rfl rfl) (And.intro (D330.cell 3 2 rfl rfl) (And.intro (D330.cell 3 3 rfl rfl) (And.intro (D330.cell 0 0 rfl rfl) (And.intro (D330.cell 0 1 rfl rfl) (And.intro (D330.cell 0 2 rfl rfl) (And.intro (D330.cell 0 3 rfl rfl) (And.intro (D330.cell 4 0 rfl rfl) (And.intro (D330.cell 4 1 rfl rfl) (And.intro (D330.cell 4 2 rfl rfl) (And.intro (D330.cell 4 3 rfl rfl) (And.intro (D330.cell 6 0 rfl rfl) (And.intro (D330.cell 6 1 rfl rfl) (And.intro (D330.cell 6 2 rfl rfl) (D330.cell 6 3 rfl rfl)))))))))))))))))))
          refine wp_region_late [] (fun w' => w'.cell? ⟨w3.heap.size, 0, none⟩ = some (.bool b_zen) ∧ w'.cell? ⟨w3.heap.size, 1, none⟩ = some (.slice A_zen n_zen c_zen) ∧ w'.cell? ⟨w3.heap.size, 2, none⟩ = some (.bool b_zed) ∧ w'.cell? ⟨w3.heap.size, 3, none⟩ = some (.slice A_zed n_zed c_zed) ∧ w'.cell? ⟨g_c, 0, none⟩ = some (.bool b_ce) ∧ w'.cell? ⟨g_c, 1, none⟩ = some (.slice A_ce n_ce n_ce) ∧ w'.cell? ⟨g_c, 2, none⟩ = some (.bool b_zed) ∧ w'.cell? ⟨g_c, 3, none⟩ = some (.slice A_zed n_zed c_zed) ∧ w'.cell? ⟨g_g, 0, none⟩ = some (.bool b_gl) ∧ w'.cell? ⟨g_g, 1, none⟩ = some (.slice A_gl n_gl n_gl) ∧ w'.cell? ⟨g_g, 2, none⟩ = some (.bool b_zed) ∧ w'.cell? ⟨g_g, 3, none⟩ = some (.slice A_zed n_zed c_zed) ∧ w'.cell? ⟨g_f, 0, none⟩ = some (.bool b_fl) ∧ w'.cell? ⟨g_f, 1, none⟩ = some (.slice A_fl n_fl n_fl) ∧ w'.cell? ⟨g_f, 2, none⟩ = some (.bool b_zed) ∧ w'.cell? ⟨g_f, 3, none⟩ = some (.slice A_zed n_zed c_zed) ∧ w'.cell? ⟨w.heap.size, 0, none⟩ = some (.bool ba) ∧ w'.cell? ⟨w.heap.size, 1, none⟩ = some (.slice Aa na ca) ∧ w'.cell? ⟨w.heap.size, 2, none⟩ = some (.bool ba') ∧ w'.cell? ⟨w.heap.size, 3, none⟩ = some (.slice Aa' na' ca')) (by kernel_rfl) ?_
          refine wpAnyL_take (i := 0) (v := ?_) rfl (by kernel_rfl) (by kernel_rfl) (by kernel_rfl) (by kernel_rfl) (by kernel_rfl) (fun _ _ _ h => h) (Or.inl ⟨by kernel_rfl, ?_⟩) s330 ?_
          rotate_left
          · rintro w' ⟨h1, h2, h3, h4, h5, h6, h7, h8, h9, h10, h11, h12, h13, h14, h15, h16, h17, h18, h19, h20⟩; go_simp; (try with_reducible rfl)
          try simp only [Act.put, List.getElem_toArray, List.getElem_cons_succ, List.getElem_cons_zero, List.setIfInBounds_toArray, List.set_cons_zero, List.set_cons_succ]
          refine wpAnyL_take (i := 1) (v := ?_) rfl (by kernel_rfl) (by kernel_rfl) (by kernel_rfl) (by kernel_rfl) (by kernel_rfl) (fun _ _ _ h => h) (Or.inl ⟨by kernel_rfl, ?_⟩) s330 ?_
          rotate_left
          · rintro w' ⟨h1, h2, h3, h4, h5, h6, h7, h8, h9, h10, h11, h12, h13, h14, h15, h16, h17, h18, h19, h20⟩; go_simp; (try with_reducible rfl)
          try simp only [Act.put, List.getElem_toArray, List.getElem_cons_succ, List.getElem_cons_zero, List.setIfInBounds_toArray, List.set_cons_zero, List.set_cons_succ]
          refine wpAnyL_take (i := 3) (v := ?_) rfl (by kernel_rfl) (by kernel_rfl) (by kernel_rfl) (by kernel_rfl) (by kernel_rfl) (fun _ _ _ h => h) (Or.inl ⟨by kernel_rfl, ?_⟩) s330 ?_
          rotate_left
          · rintro w' ⟨h1, h2, h3, h4, h5, h6, h7, h8, h9, h10, h11, h12, h13, h14, h15, h16, h17, h18, h19, h20⟩; go_simp; (try with_reducible rfl)
          try simp only [Act.put, List.getElem_toArray, List.getElem_cons_succ, List.getElem_cons_zero, List.setIfInBounds_toArray, List.set_cons_zero, List.set_cons_succ]
          refine wpAnyL_one (i := 2) (by kernel_rfl) rfl (fun K hK => ?_)
          go_simp
          refine (qsub (k := 4) (D330.z 10 rfl) (D330.z 9 rfl) (D330.z 7 rfl) (D330.z 9 rfl) (by decide) (by decide) (by decide) (by decide) (by decide) (by decide) (qv_self (0)) (qv_int0 (ra.ceil))).mono ?_; rintro e w331 ⟨b_zcn, A_zcn, n_zcn, b_zcd, A_zcd, n_zcd, rfl, z_zcn, z_zcd, hb331⟩
          have R331 := (((D330.below hb331).add z_zcn).add z_zcd)
          have s331 := And.intro (R331.cell 5 0 rfl rfl) (And.intro (R331.cell 5 1 rfl rfl) (And.intro (R331.cell 5 2 rfl rfl) (And.intro (R331.cell 5 3 rfl rfl) (And.intro (R331.cell 3 0 rfl rfl) (And.intro (R331.cell 3 1 rfl rfl) (And.intro (R331.cell 3 2 rfl rfl) (And.intro (R331.cell 3 3 rfl rfl) (And.intro (R331.cell 0 0 rfl rfl) (And.intro (R331.cell 0 1 rfl rfl) (And.intro (R331.cell 0 2 rfl rfl) (And.intro (R331.cell 0 3 rfl rfl) (And.intro (R331.cell 4 0 rfl rfl) (And.intro (R331.cell 4 1 rfl rfl) (And.intro (R331.cell 4 2 rfl rfl) (And.intro (R331.cell 4 3 rfl rfl) (And.intro (R331.cell 6 0 rfl rfl) (And.intro (R331.cell 6 1 rfl rfl) (And.intro (R331.cell 6 2 rfl rfl) (R331.cell 6 3 rfl rfl)))))))))))))))))))
          clear z_zcn z_zcd hb331 D330 s330
          go_wp2_with fail
          refine hK.out _ _ (fun _ => s331) ?_
          clear hK K
          try simp only [Act.put, List.getElem_toArray, List.getElem_cons_succ, List.getElem_cons_zero, List.setIfInBounds_toArray, List.set_cons_zero, List.set_cons_succ]
          refine wpAnyL_one (i := 4) (by kernel_rfl) rfl (fun K hK => ?_)
          go_simp
          refine (qplain (K := 9) (R331.z 2 rfl) (R331.z 11 rfl) (by decide) (by decide) (by decide) (by decide) (qv_int0 ((0 - ra).floor))).mono ?_; rintro e w332 ⟨b_pgn, A_pgn, n_pgn, b_pgd, A_pgd, n_pgd, rfl, z_pgn, z_pgd, hb332⟩
          have R332 := (((R331.below hb332).add z_pgn).add z_pgd)
          have s332 := And.intro (R332.cell 5 0 rfl rfl) (And.intro (R332.cell 5 1 rfl rfl) (And.intro (R332.cell 5 2 rfl rfl) (And.intro (R332.cell 5 3 rfl rfl) (And.intro (R332.cell 3 0 rfl rfl) (And.intro (R332.cell 3 1 rfl rfl) (And.intro (R332.cell 3 2 rfl rfl) (And.intro (R332.cell 3 3 rfl rfl) (And.intro (R332.cell 0 0 rfl rfl) (And.intro (R332.cell 0 1 rfl rfl) (And.intro (R332.cell 0 2 rfl rfl) (And.intro (R332.cell 0 3 rfl rfl) (And.intro (R332.cell 4 0 rfl rfl) (And.intro (R332.cell 4 1 rfl rfl) (And.intro (R332.cell 4 2 rfl rfl) (And.intro (R332.cell 4 3 rfl rfl) (And.intro (R332.cell 6 0 rfl rfl) (And.intro (R332.cell 6 1 rfl rfl) (And.intro (R332.cell 6 2 rfl rfl) (R332.cell 6 3 rfl rfl)))))))))))))))))))
          clear z_pgn z_pgd hb332 R331 s331
          go_wp2_with fail
          refine hK.out _ _ (fun _ => s332) ?_
          clear hK K
          try simp only [Act.put, List.getElem_toArray, List.getElem_cons_succ, List.getElem_cons_zero, List.setIfInBounds_toArray, List.set_cons_zero, List.set_cons_succ]
          refine wpAnyL_one (i := 5) (by kernel_rfl) rfl (fun K hK => ?_)
          go_simp
          refine (rqsame (R332.z 3 rfl) (R332.z 2 rfl) (R332.z 1 rfl) (R332.z 0 rfl) (by decide) (by decide) (by decide) (by decide) (qsame_eq (qwh_neg ra))).mono ?_; rintro e w333 ⟨rfl, hb333⟩
          have R333 := (R332.below hb333)
          have s333 := And.intro (R333.cell 5 0 rfl rfl) (And.intro (R333.cell 5 1 rfl rfl) (And.intro (R333.cell 5 2 rfl rfl) (And.intro (R333.cell 5 3 rfl rfl) (And.intro (R333.cell 3 0 rfl rfl) (And.intro (R333.cell 3 1 rfl rfl) (And.intro (R333.cell 3 2 rfl rfl) (And.intro (R333.cell 3 3 rfl rfl) (And.intro (R333.cell 0 0 rfl rfl) (And.intro (R333.cell 0 1 rfl rfl) (And.intro (R333.cell 0 2 rfl rfl) (And.intro (R333.cell 0 3 rfl rfl) (And.intro (R333.cell 4 0 rfl rfl) (And.intro (R333.cell 4 1 rfl rfl) (And.intro (R333.cell 4 2 rfl rfl) (And.intro (R333.cell 4 3 rfl rfl) (And.intro (R333.cell 6 0 rfl rfl) (And.intro (R333.cell 6 1 rfl rfl) (And.intro (R333.cell 6 2 rfl rfl) (R333.cell 6 3 rfl rfl)))))))))))))))))))
          clear hb333 R332 s332
          go_wp2_with fail
          refine hK.out _ _ (fun _ => s333) ?_
          clear hK K
          try simp only [Act.put, List.getElem_toArray, List.getElem_cons_succ, List.getElem_cons_zero, List.setIfInBounds_toArray, List.set_cons_zero, List.set_cons_succ]
          refine wpAnyL_take (i := 6) (v := ?_) rfl (by kernel_rfl) (by kernel_rfl) (by kernel_rfl) (by kernel_rfl) (by kernel_rfl) (fun _ _ _ h => h) (Or.inl ⟨by kernel_rfl, ?_⟩) s333 ?_
          rotate_left
          · rintro w' ⟨h1, h2, h3, h4, h5, h6, h7, h8, h9, h10, h11, h12, h13, h14, h15, h16, h17, h18, h19, h20⟩; go_simp; (try with_reducible rfl)
          try simp only [Act.put, List.getElem_toArray, List.getElem_cons_succ, List.getElem_cons_zero, List.setIfInBounds_toArray, List.set_cons_zero, List.set_cons_succ]
          refine wpAnyL_take (i := 7) (v := ?_) rfl (by kernel_rfl) (by kernel_rfl) (by kernel_rfl) (by kernel_rfl) (by kernel_rfl) (fun _ _ _ h => h) (Or.inl ⟨by kernel_rfl, ?_⟩) s333 ?_
          rotate_left
          · rintro w' ⟨h1, h2, h3, h4, h5, h6, h7, h8, h9, h10, h11, h12, h13, h14, h15, h16, h17, h18, h19, h20⟩; go_simp; (try with_reducible rfl)
          try simp only [Act.put, List.getElem_toArray, List.getElem_cons_succ, List.getElem_cons_zero, List.setIfInBounds_toArray, List.set_cons_zero, List.set_cons_succ]
          refine wpAnyL_take (i := 8) (v := ?_) rfl (by kernel_rfl) (by kernel_rfl) (by kernel_rfl) (by kernel_rfl) (by kernel_rfl) (fun _ _ _ h => h) (Or.inl ⟨by kernel_rfl, ?_⟩) s333 ?_
          rotate_left
          · rintro w' ⟨h1, h2, h3, h4, h5, h6, h7, h8, h9, h10, h11, h12, h13, h14, h15, h16, h17, h18, h19, h20⟩; go_simp; (try with_reducible rfl)
          try simp only [Act.put, List.getElem_toArray, List.getElem_cons_succ, List.getElem_cons_zero, List.setIfInBounds_toArray, List.set_cons_zero, List.set_cons_succ]
          refine wpAnyL_take (i := 9) (v := ?_) rfl (by kernel_rfl) (by kernel_rfl) (by kernel_rfl) (by kernel_rfl) (by kernel_rfl) (fun _ _ _ h => h) (Or.inl ⟨by kernel_rfl, ?_⟩) s333 ?_
          rotate_left
          · rintro w' ⟨h1, h2, h3, h4, h5, h6, h7, h8, h9, h10, h11, h12, h13, h14, h15, h16, h17, h18, h19, h20⟩; go_simp; (try with_reducible rfl)
          try simp only [Act.put, List.getElem_toArray, List.getElem_cons_succ, List.getElem_cons_zero, List.setIfInBounds_toArray, List.set_cons_zero, List.set_cons_succ]
          refine wpAnyL_one (i := 10) (by kernel_rfl) rfl (fun K hK => ?_)
          go_simp
          refine (qcmp_ (k := 4) (R333.z 12 rfl) (R333.z 13 rfl) (R333.z 16 rfl) (R333.z 15 rfl) (by decide) (by decide) (by decide) (by decide) (by decide) (by decide) (qv_int0 (ra.floor)) Ha.out HW.out.1).mono ?_; rintro e w334 ⟨rfl, hb334⟩
          have R334 := (R333.below hb334)
          have s334 := And.intro (R334.cell 5 0 rfl rfl) (And.intro (R334.cell 5 1 rfl rfl) (And.intro (R334.cell 5 2 rfl rfl) (And.intro (R334.cell 5 3 rfl rfl) (And.intro (R334.cell 3 0 rfl rfl) (And.intro (R334.cell 3 1 rfl rfl) (And.intro (R334.cell 3 2 rfl rfl) (And.intro (R334.cell 3 3 rfl rfl) (And.intro (R334.cell 0 0 rfl rfl) (And.intro (R334.cell 0 1 rfl rfl) (And.intro (R334.cell 0 2 rfl rfl) (And.intro (R334.cell 0 3 rfl rfl) (And.intro (R334.cell 4 0 rfl rfl) (And.intro (R334.cell 4 1 rfl rfl) (And.intro (R334.cell 4 2 rfl rfl) (And.intro (R334.cell 4 3 rfl rfl) (And.intro (R334.cell 6 0 rfl rfl) (And.intro (R334.cell 6 1 rfl rfl) (And.intro (R334.cell 6 2 rfl rfl) (R334.cell 6 3 rfl rfl)))))))))))))))))))
          clear hb334 R333 s333
          go_wp2_with fail
          refine hK.out _ _ (fun _ => s334) ?_
          clear hK K
          try simp only [Act.put, List.getElem_toArray, List.getElem_cons_succ, List.getElem_cons_zero, List.setIfInBounds_toArray, List.set_cons_zero, List.set_cons_succ]
          refine wpAnyL_take (i := 11) (v := ?_) rfl (by kernel_rfl) (by kernel_rfl) (by kernel_rfl) (by kernel_rfl) (by kernel_rfl) (fun _ _ _ h => h) (Or.inl ⟨by kernel_rfl, ?_⟩) s334 ?_
          rotate_left
          · rintro w' ⟨h1, h2, h3, h4, h5, h6, h7, h8, h9, h10, h11, h12, h13, h14, h15, h16, h17, h18, h19, h20⟩; go_simp; (try with_reducible rfl)
          try simp only [Act.put, List.getElem_toArray, List.getElem_cons_succ, List.getElem_cons_zero, List.setIfInBounds_toArray, List.set_cons_zero, List.set_cons_succ]
          refine wpAnyL_take (i := 12) (v := ?_) rfl (by kernel_rfl) (by kernel_rfl) (by kernel_rfl) (by kernel_rfl) (by kernel_rfl) (fun _ _ _ h => h) (Or.inl ⟨by kernel_rfl, ?_⟩) s334 ?_
          rotate_left
          · rintro w' ⟨h1, h2, h3, h4, h5, h6, h7, h8, h9, h10, h11, h12, h13, h14, h15, h16, h17, h18, h19, h20⟩; go_simp; (try with_reducible rfl)
          try simp only [Act.put, List.getElem_toArray, List.getElem_cons_succ, List.getElem_cons_zero, List.setIfInBounds_toArray, List.set_cons_zero, List.set_cons_succ]
          refine wpAnyL_take (i := 13) (v := ?_) rfl (by kernel_rfl) (by kernel_rfl) (by kernel_rfl) (by kernel_rfl) (by kernel_rfl) (fun _ _ _ h => h) (Or.inl ⟨by kernel_rfl, ?_⟩) s334 ?_
          rotate_left
          · rintro w' ⟨h1, h2, h3, h4, h5, h6, h7, h8, h9, h10, h11, h12, h13, h14, h15, h16, h17, h18, h19, h20⟩; go_simp; (try with_reducible rfl)
          try simp only [Act.put, List.getElem_toArray, List.getElem_cons_succ, List.getElem_cons_zero, List.setIfInBounds_toArray, List.set_cons_zero, List.set_cons_succ]
          refine wpAnyL_take (i := 14) (v := ?_) rfl (by kernel_rfl) (by kernel_rfl) (by kernel_rfl) (by kernel_rfl) (by kernel_rfl) (fun _ _ _ h => h) (Or.inl ⟨by kernel_rfl, ?_⟩) s334 ?_
          rotate_left
          · rintro w' ⟨h1, h2, h3, h4, h5, h6, h7, h8, h9, h10, h11, h12, h13, h14, h15, h16, h17, h18, h19, h20⟩; go_simp; (try with_reducible rfl)
          try simp only [Act.put, List.getElem_toArray, List.getElem_cons_succ, List.getElem_cons_zero, List.setIfInBounds_toArray, List.set_cons_zero, List.set_cons_succ]
          refine wpAnyL_take (i := 15) (v := ?_) rfl (by kernel_rfl) (by kernel_rfl) (by kernel_rfl) (by kernel_rfl) (by kernel_rfl) (fun _ _ _ h => h) (Or.inl ⟨by kernel_rfl, ?_⟩) s334 ?_
          rotate_left
          · rintro w' ⟨h1, h2, h3, h4, h5, h6, h7, h8, h9, h10, h11, h12, h13, h14, h15, h16, h17, h18, h19, h20⟩; go_simp; (try with_reducible rfl)
          try simp only [Act.put, List.getElem_toArray, List.getElem_cons_succ, List.getElem_cons_zero, List.setIfInBounds_toArray, List.set_cons_zero, List.set_cons_succ]
          refine wpAnyL_one (i := 16) (by kernel_rfl) rfl (fun K hK => ?_)
          go_simp
          refine (qcmp_ (k := 4) (R334.z 11 rfl) (R334.z 13 rfl) (R334.z 16 rfl) (R334.z 15 rfl) (by decide) (by decide) (by decide) (by decide) (by decide) (by decide) (qv_int0 (ra.ceil)) Ha.out HW.out.2.1).mono ?_; rintro e w335 ⟨rfl, hb335⟩
          have R335 := (R334.below hb335)
          have s335 := And.intro (R335.cell 5 0 rfl rfl) (And.intro (R335.cell 5 1 rfl rfl) (And.intro (R335.cell 5 2 rfl rfl) (And.intro (R335.cell 5 3 rfl rfl) (And.intro (R335.cell 3 0 rfl rfl) (And.intro (R335.cell 3 1 rfl rfl) (And.intro (R335.cell 3 2 rfl rfl) (And.intro (R335.cell 3 3 rfl rfl) (And.intro (R335.cell 0 0 rfl rfl) (And.intro (R335.cell 0 1 rfl rfl) (And.intro (R335.cell 0 2 rfl rfl) (And.intro (R335.cell 0 3 rfl rfl) (And.intro (R335.cell 4 0 rfl rfl) (And.intro (R335.cell 4 1 rfl rfl) (And.intro (R335.cell 4 2 rfl rfl) (And.intro (R335.cell 4 3 rfl rfl) (And.intro (R335.cell 6 0 rfl rfl) (And.intro (R335.cell 6 1 rfl rfl) (And.intro (R335.cell 6 2 rfl rfl) (R335.cell 6 3 rfl rfl)))))))))))))))))))
          clear hb335 R334 s334
          go_wp2_with fail
          refine hK.out _ _ (fun _ => s335) ?_
          clear hK K
          try simp only [Act.put, List.getElem_toArray, List.getElem_cons_succ, List.getElem_cons_zero, List.setIfInBounds_toArray, List.set_cons_zero, List.set_cons_succ]
          refine wpAnyL_take (i := 17) (v := ?_) rfl (by kernel_rfl) (by kernel_rfl) (by kernel_rfl) (by kernel_rfl) (by kernel_rfl) (fun _ _ _ h => h) (Or.inl ⟨by kernel_rfl, ?_⟩) s335 ?_
          rotate_left
          · rintro w' ⟨h1, h2, h3, h4, h5, h6, h7, h8, h9, h10, h11, h12, h13, h14, h15, h16, h17, h18, h19, h20⟩; go_simp; (try with_reducible rfl)
          try simp only [Act.put, List.getElem_toArray, List.getElem_cons_succ, List.getElem_cons_zero, List.setIfInBounds_toArray, List.set_cons_zero, List.set_cons_succ]
          refine wpAnyL_take (i := 18) (v := ?_) rfl (by kernel_rfl) (by kernel_rfl) (by kernel_rfl) (by kernel_rfl) (by kernel_rfl) (fun _ _ _ h => h) (Or.inl ⟨by kernel_rfl, ?_⟩) s335 ?_
          rotate_left
          · rintro w' ⟨h1, h2, h3, h4, h5, h6, h7, h8, h9, h10, h11, h12, h13, h14, h15, h16, h17, h18, h19, h20⟩; go_simp; (try with_reducible rfl)
          try simp only [Act.put, List.getElem_toArray, List.getElem_cons_succ, List.getElem_cons_zero, List.setIfInBounds_toArray, List.set_cons_zero, List.set_cons_succ]
          refine wpAnyL_done (by kernel_rfl) ?_ _
          go_wp2_with fail
          have D336 := R335.drew
          have s336 := And.intro (D336.cell 5 0 rfl rfl) (And.intro (D336.cell 5 1 rfl rfl) (And.intro (D336.cell 5 2 rfl rfl) (And.intro (D336.cell 5 3 rfl rfl) (And.intro (D336.cell 3 0 rfl rfl) (And.intro (D336.cell 3 1 rfl rfl) (And.intro (D336.cell 3 2 rfl rfl) (And.intro (D336.cell 3 3 rfl rfl) (And.intro (D336.cell 4 0 rfl rfl) (And.intro (D336.cell 4 1 rfl rfl) (And.intro (D336.cell 4 2 rfl rfl) (And.intro (D336.cell 4 3 rfl rfl) (And.intro (D336.cell 1 0 rfl rfl) (And.intro (D336.cell 1 1 rfl rfl) (And.intro (D336.cell 1 2 rfl rfl) (D336.cell 1 3 rfl rfl)))))))))))))))
          refine wp_region_late [] (fun w' => w'.cell? ⟨w3.heap.size, 0, none⟩ = some (.bool b_zen) ∧ w'.cell? ⟨w3.heap.size, 1, none⟩ = some (.slice A_zen n_zen c_zen) ∧ w'.cell? ⟨w3.heap.size, 2, none⟩ = some (.bool b_zed) ∧ w'.cell? ⟨w3.heap.size, 3, none⟩ = some (.slice A_zed n_zed c_zed) ∧ w'.cell? ⟨g_c, 0, none⟩ = some (.bool b_ce) ∧ w'.cell? ⟨g_c, 1, none⟩ = some (.slice A_ce n_ce n_ce) ∧ w'.cell? ⟨g_c, 2, none⟩ = some (.bool b_zed) ∧ w'.cell? ⟨g_c, 3, none⟩ = some (.slice A_zed n_zed c_zed) ∧ w'.cell? ⟨g_f, 0, none⟩ = some (.bool b_fl) ∧ w'.cell? ⟨g_f, 1, none⟩ = some (.slice A_fl n_fl n_fl) ∧ w'.cell? ⟨g_f, 2, none⟩ = some (.bool b_zed) ∧ w'.cell? ⟨g_f, 3, none⟩ = some (.slice A_zed n_zed c_zed) ∧ w'.cell? ⟨w219.heap.size, 0, none⟩ = some (.bool b_onen) ∧ w'.cell? ⟨w219.heap.size, 1, none⟩ = some (.slice A_onen n_onen n_onen) ∧ w'.cell? ⟨w219.heap.size, 2, none⟩ = some (.bool b_oned) ∧ w'.cell? ⟨w219.heap.size, 3, none⟩ = some (.slice A_oned n_oned n_oned)) (by kernel_rfl) ?_
          refine wpAnyL_take (i := 0) (v := ?_) rfl (by kernel_rfl) (by kernel_rfl) (by kernel_rfl) (by kernel_rfl) (by kernel_rfl) (fun _ _ _ h => h) (Or.inl ⟨by kernel_rfl, ?_⟩) s336 ?_
          rotate_left
          · rintro w' ⟨h1, h2, h3, h4, h5, h6, h7, h8, h9, h10, h11, h12, h13, h14, h15, h16⟩; go_simp; (try with_reducible rfl)
          try simp only [Act.put, List.getElem_toArray, List.getElem_cons_succ, List.getElem_cons_zero, List.setIfInBounds_toArray, List.set_cons_zero, List.set_cons_succ]
          refine wpAnyL_take (i := 1) (v := ?_) rfl (by kernel_rfl) (by kernel_rfl) (by kernel_rfl) (by kernel_rfl) (by kernel_rfl) (fun _ _ _ h => h) (Or.inl ⟨by kernel_rfl, ?_⟩) s336 ?_
          rotate_left
          · rintro w' ⟨h1, h2, h3, h4, h5, h6, h7, h8, h9, h10, h11, h12, h13, h14, h15, h16⟩; go_simp; (try with_reducible rfl)
          try simp only [Act.put, List.getElem_toArray, List.getElem_cons_succ, List.getElem_cons_zero, List.setIfInBounds_toArray, List.set_cons_zero, List.set_cons_succ]
          refine wpAnyL_take (i := 2) (v := undef) rfl (by kernel_rfl) (by kernel_rfl) (by kernel_rfl) (by kernel_rfl) (by kernel_rfl) (fun _ _ _ h => h) (Or.inr ⟨by kernel_rfl, rfl⟩) s336 ?_
          try simp only [Act.put, List.getElem_toArray, List.getElem_cons_succ, List.getElem_cons_zero, List.setIfInBounds_toArray, List.set_cons_zero, List.set_cons_succ]
          refine wpAnyL_take (i := 3) (v := undef) rfl (by kernel_rfl) (by kernel_rfl) (by kernel_rfl) (by kernel_rfl) (by kernel_rfl) (fun _ _ _ h => h) (Or.inr ⟨by kernel_rfl, rfl⟩) s336 ?_
          try simp only [Act.put, List.getElem_toArray, List.getElem_cons_succ, List.getElem_cons_zero, List.setIfInBounds_toArray, List.set_cons_zero, List.set_cons_succ]
          refine wpAnyL_take (i := 5) (v := undef) rfl (by kernel_rfl) (by kernel_rfl) (by kernel_rfl) (by kernel_rfl) (by kernel_rfl) (fun _ _ _ h => h) (Or.inr ⟨by kernel_rfl, rfl⟩) s336 ?_
          try simp only [Act.put, List.getElem_toArray, List.getElem_cons_succ, List.getElem_cons_zero, List.setIfInBounds_toArray, List.set_cons_zero, List.set_cons_succ]
          refine wpAnyL_one (i := 4) (by kernel_rfl) rfl (fun K hK => ?_)
          rw [if_neg (Bool.eq_false_iff.1 (by kernel_rfl))]
          refine hK.out _ _ (fun _ => s336) ?_
          clear hK K
          try simp only [Act.put, List.getElem_toArray, List.getElem_cons_succ, List.getElem_cons_zero, List.setIfInBounds_toArray, List.set_cons_zero, List.set_cons_succ]
          refine wpAnyL_one (i := 6) (by kernel_rfl) rfl (fun K hK => ?_)
          rw [if_neg (Bool.eq_false_iff.1 (by kernel_rfl))]
          refine hK.out _ _ (fun _ => s336) ?_
          clear hK K
          try simp only [Act.put, List.getElem_toArray, List.getElem_cons_succ, List.getElem_cons_zero, List.setIfInBounds_toArray, List.set_cons_zero, List.set_cons_succ]
          refine wpAnyL_take (i := 7) (v := ?_) rfl (by kernel_rfl) (by kernel_rfl) (by kernel_rfl) (by kernel_rfl) (by kernel_rfl) (fun _ _ _ h => h) (Or.inl ⟨by kernel_rfl, ?_⟩) s336 ?_
          rotate_left
          · rintro w' ⟨h1, h2, h3, h4, h5, h6, h7, h8, h9, h10, h11, h12, h13, h14, h15, h16⟩; go_simp; (try with_reducible rfl)
          try simp only [Act.put, List.getElem_toArray, List.getElem_cons_succ, List.getElem_cons_zero, List.setIfInBounds_toArray, List.set_cons_zero, List.set_cons_succ]
          refine wpAnyL_take (i := 8) (v := ?_) rfl (by kernel_rfl) (by kernel_rfl) (by kernel_rfl) (by kernel_rfl) (by kernel_rfl) (fun _ _ _ h => h) (Or.inl ⟨by kernel_rfl, ?_⟩) s336 ?_
          rotate_left
          · rintro w' ⟨h1, h2, h3, h4, h5, h6, h7, h8, h9, h10, h11, h12, h13, h14, h15, h16⟩; go_simp; (try with_reducible rfl)
          try simp only [Act.put, List.getElem_toArray, List.getElem_cons_succ, List.getElem_cons_zero, List.setIfInBounds_toArray, List.set_cons_zero, List.set_cons_succ]
          refine wpAnyL_take (i := 9) (v := ?_) rfl (by kernel_rfl) (by kernel_rfl) (by kernel_rfl) (by kernel_rfl) (by kernel_rfl) (fun _ _ _ h => h) (Or.inl ⟨by kernel_rfl, ?_⟩) s336 ?_
          rotate_left
          · rintro w' ⟨h1, h2, h3, h4, h5, h6, h7, h8, h9, h10, h11, h12, h13, h14, h15, h16⟩; go_simp; (try with_reducible rfl)
          try simp only [Act.put, List.getElem_toArray, List.getElem_cons_succ, List.getElem_cons_zero, List.setIfInBounds_toArray, List.set_cons_zero, List.set_cons_succ]
          refine wpAnyL_take (i := 10) (v := ?_) rfl (by kernel_rfl) (by kernel_rfl) (by kernel_rfl) (by kernel_rfl) (by kernel_rfl) (fun _ _ _ h => h) (Or.inl ⟨by kernel_rfl, ?_⟩) s336 ?_
          rotate_left
          · rintro w' ⟨h1, h2, h3, h4, h5, h6, h7, h8, h9, h10, h11, h12, h13, h14, h15, h16⟩; go_simp; (try with_reducible rfl)
          try simp only [Act.put, List.getElem_toArray, List.getElem_cons_succ, List.getElem_cons_zero, List.setIfInBounds_toArray, List.set_cons_zero, List.set_cons_succ]
          refine wpAnyL_take (i := 11) (v := ?_) rfl (by kernel_rfl) (by kernel_rfl) (by kernel_rfl) (by kernel_rfl) (by kernel_rfl) (fun _ _ _ h => h) (Or.inl ⟨by kernel_rfl, ?_⟩) s336 ?_
          rotate_left
          · rintro w' ⟨h1, h2, h3, h4, h5, h6, h7, h8, h9, h10, h11, h12, h13, h14, h15, h16⟩; go_simp; (try with_reducible rfl)
          try simp only [Act.put, List.getElem_toArray, List.getElem_cons_succ, List.getElem_cons_zero, List.setIfInBounds_toArray, List.set_cons_zero, List.set_cons_succ]
          refine wpAnyL_take (i := 12) (v := ?_) rfl (by kernel_rfl) (by kernel_rfl) (by kernel_rfl) (by kernel_rfl) (by kernel_rfl) (fun _ _ _ h => h) (Or.inl ⟨by kernel_rfl, ?_⟩) s336 ?_
          rotate_left
          · rintro w' ⟨h1, h2, h3, h4, h5, h6, h7, h8, h9, h10, h11, h12, h13, h14, h15, h16⟩; go_simp; (try with_reducible rfl)
          try simp only [Act.put, List.getElem_toArray, List.getElem_cons_succ, List.getElem_cons_zero, List.setIfInBounds_toArray, List.set_cons_zero, List.set_cons_succ]
          refine wpAnyL_take (i := 13) (v := ?_) rfl (by kernel_rfl) (by kernel_rfl) (by kernel_rfl) (by kernel_rfl) (by kernel_rfl) (fun _ _ _ h => h) (Or.inl ⟨by kernel_rfl, ?_⟩) s336 ?_
          rotate_left
          · rintro w' ⟨h1, h2, h3, h4, h5, h6, h7, h8, h9, h10, h11, h12, h13, h14, h15, h16⟩; go_simp; (try with_reducible rfl)
          try simp only [Act.put, List.getElem_toArray, List.getElem_cons_succ, List.getElem_cons_zero, List.setIfInBounds_toArray, List.set_cons_zero, List.set_cons_succ]
          refine wpAnyL_take (i := 15) (v := ?_) rfl (by kernel_rfl) (by kernel_rfl) (by kernel_rfl) (by kernel_rfl) (by kernel_rfl) (fun _ _ _ h => h) (Or.inl ⟨by kernel_rfl, ?_⟩) s336 ?_
          rotate_left
          · rintro w' ⟨h1, h2, h3, h4, h5, h6, h7, h8, h9, h10, h11, h12, h13, h14, h15, h16⟩; go_simp; (try with_reducible rfl)
          try simp only [Act.put, List.getElem_toArray, List.getElem_cons_succ, List.getElem_cons_zero, List.setIfInBounds_toArray, List.set_cons_zero, List.set_cons_succ]
          refine wpAnyL_one (i := 14) (by kernel_rfl) rfl (fun K hK => ?_)
          go_simp
          refine (qsub (k := 4) (D336.z 11 rfl) (D336.z 13 rfl) (D336.z 12 rfl) (D336.z 13 rfl) (by decide) (by decide) (by decide) (by decide) (by decide) (by decide) (qv_int0 (ra.ceil)) (qv_int0 (ra.floor))).mono ?_; rintro e w337 ⟨b_cfn, A_cfn, n_cfn, b_cfd, A_cfd, n_cfd, rfl, z_cfn, z_cfd, hb337⟩
          have R337 := (((D336.below hb337).add z_cfn).add z_cfd)
          have s337 := And.intro (R337.cell 5 0 rfl rfl) (And.intro (R337.cell 5 1 rfl rfl) (And.intro (R337.cell 5 2 rfl rfl) (And.intro (R337.cell 5 3 rfl rfl) (And.intro (R337.cell 3 0 rfl rfl) (And.intro (R337.cell 3 1 rfl rfl) (And.intro (R337.cell 3 2 rfl rfl) (And.intro (R337.cell 3 3 rfl rfl) (And.intro (R337.cell 4 0 rfl rfl) (And.intro (R337.cell 4 1 rfl rfl) (And.intro (R337.cell 4 2 rfl rfl) (And.intro (R337.cell 4 3 rfl rfl) (And.intro (R337.cell 1 0 rfl rfl) (And.intro (R337.cell 1 1 rfl rfl) (And.intro (R337.cell 1 2 rfl rfl) (R337.cell 1 3 rfl rfl)))))))))))))))
          clear z_cfn z_cfd hb337 D336 s336
          go_wp2_with fail
          refine hK.out _ _ (fun _ => s337) ?_
          clear hK K
          try simp only [Act.put, List.getElem_toArray, List.getElem_cons_succ, List.getElem_cons_zero, List.setIfInBounds_toArray, List.set_cons_zero, List.set_cons_succ]
          refine wpAnyL_one (i := 16) (by kernel_rfl) rfl (fun K hK => ?_)
          go_simp
          refine (rqsame (R337.z 1 rfl) (R337.z 0 rfl) (R337.z 10 rfl) (R337.z 9 rfl) (by decide) (by decide) (by decide) (by decide) (qsame_eq HW.out.2.2)).mono ?_; rintro e w338 ⟨rfl, hb338⟩
          have R338 := (R337.below hb338)
          have s338 := And.intro (R338.cell 5 0 rfl rfl) (And.intro (R338.cell 5 1 rfl rfl) (And.intro (R338.cell 5 2 rfl rfl) (And.intro (R338.cell 5 3 rfl rfl) (And.intro (R338.cell 3 0 rfl rfl) (And.intro (R338.cell 3 1 rfl rfl) (And.intro (R338.cell 3 2 rfl rfl) (And.intro (R338.cell 3 3 rfl rfl) (And.intro (R338.cell 4 0 rfl rfl) (And.intro (R338.cell 4 1 rfl rfl) (And.intro (R338.cell 4 2 rfl rfl) (And.intro (R338.cell 4 3 rfl rfl) (And.intro (R338.cell 1 0 rfl rfl) (And.intro (R338.cell 1 1 rfl rfl) (And.intro (R338.cell 1 2 rfl rfl) (R338.cell 1 3 rfl rfl)))))))))))))))
          clear hb338 R337 s337
          go_wp2_with fail
          refine hK.out _ _ (fun _ => s338) ?_
          clear hK K
          try simp only [Act.put, List.getElem_toArray, List.getElem_cons_succ, List.getElem_cons_zero, List.setIfInBounds_toArray, List.set_cons_zero, List.set_cons_succ]
          refine wpAnyL_take (i := 17) (v := ?_) rfl (by kernel_rfl) (by kernel_rfl) (by kernel_rfl) (by kernel_rfl) (by kernel_rfl) (fun _ _ _ h => h) (Or.inl ⟨by kernel_rfl, ?_⟩) s338 ?_
          rotate_left
          · rintro w' ⟨h1, h2, h3, h4, h5, h6, h7, h8, h9, h10, h11, h12, h13, h14, h15, h16⟩; go_simp; (try with_reducible rfl)
          try simp only [Act.put, List.getElem_toArray, List.getElem_cons_succ, List.getElem_cons_zero, List.setIfInBounds_toArray, List.set_cons_zero, List.set_cons_succ]
          refine wpAnyL_take (i := 18) (v := ?_) rfl (by kernel_rfl) (by kernel_rfl) (by kernel_rfl) (by kernel_rfl) (by kernel_rfl) (fun _ _ _ h => h) (Or.inl ⟨by kernel_rfl, ?_⟩) s338 ?_
          rotate_left
          · rintro w' ⟨h1, h2, h3, h4, h5, h6, h7, h8, h9, h10, h11, h12, h13, h14, h15, h16⟩; go_simp; (try with_reducible rfl)
          try simp only [Act.put, List.getElem_toArray, List.getElem_cons_succ, List.getElem_cons_zero, List.setIfInBounds_toArray, List.set_cons_zero, List.set_cons_succ]
          refine wpAnyL_one (i := 19) (by kernel_rfl) rfl (fun K hK => ?_)
          go_simp
          refine hK.out _ _ (fun _ => s338) ?_
          clear hK K
          try simp only [Act.put, List.getElem_toArray, List.getElem_cons_succ, List.getElem_cons_zero, List.setIfInBounds_toArray, List.set_cons_zero, List.set_cons_succ]
          refine wpAnyL_done (by kernel_rfl) ?_ _
          go_wp2_with fail
          go_ret
          exact ⟨rfl, R338.bel⟩
end Go.Proofs.YticjhlbmdjijnaaGreatDoor
