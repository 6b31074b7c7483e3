/- The law RatioBetween, walked. No condition but the reach of a slice. No condition but the reach of a slice. -/
import Derived.Test.YticjhlbmdjijnaaGreatDoorHQAwake
import Derived.Test.YticjhlbmdjijnaaGreatDoorHQFew
import Derived.Test.YticjhlbmdjijnaaGreatDoorHQT
import Derived.Test.YticjhlbmdjijnaaGreatDoorHQU
import Derived.Test.YticjhlbmdjijnaaGreatDoorHQMore
import Derived.Deep.DeepCutAuto
namespace Go.Proofs.YticjhlbmdjijnaaGreatDoor
set_option linter.unusedSimpArgs false
set_option linter.unusedVariables false
open Go.RowKit

set_option maxRecDepth 100000 in
set_option maxHeartbeats 25600000 in
theorem ratioBetween_any (ba : Bool) (Aa : Option Addr) (na ca : Nat) (la : List Nat) (ba' : Bool) (Aa' : Option Addr) (na' ca' : Nat) (la' : List Nat) (bb : Bool) (Ab : Option Addr) (nb cb : Nat) (lb : List Nat) (bb' : Bool) (Ab' : Option Addr) (nb' cb' : Nat) (lb' : List Nat) (w : World) (hra : Lim w Aa na ca la) (hna : na ≤ maxLen) (hra' : Lim w Aa' na' ca' la') (hna' : na' ≤ maxLen) (hrb : Lim w Ab nb cb lb) (hnb : nb ≤ maxLen) (hrb' : Lim w Ab' nb' cb' lb') (hnb' : nb' ≤ maxLen) : Calls Tryz.prog 9 #[.agg #[.bool ba, .slice Aa na ca, .bool ba', .slice Aa' na' ca'], .agg #[.bool bb, .slice Ab nb cb, .bool bb', .slice Ab' nb' cb']] w fun e w' => e = .returned (.bool true) ∧ Below w.heap.size w w' := by
  by_cases hfa : ¬ (na ≤ 4 ∧ na' ≤ 4)
  · have R0 := (((Env.nil_ w).alloc 26 #[.bool ba, .slice Aa na ca, .bool ba', .slice Aa' na' ca'] (g := w.heap.size) rfl rfl).alloc 26 #[.bool bb, .slice Ab nb cb, .bool bb', .slice Ab' nb' cb'] (g := w.heap.size + 1) (by simp) rfl)
    have HF := Lib.hid hfa
    clear hfa
    go_enter Tryz.func9, Tryz.ntmps9
    go_wp2_with fail
    refine (qawake_any _).mono ?_; rintro e w1 ⟨rfl, hb1⟩
    have R1 := (R0.below hb1)
    clear hb1 R0
    have k2a0 := R1.cell 1 0 rfl rfl
    have k2a1 := R1.cell 1 1 rfl rfl
    have k2a2 := R1.cell 1 2 rfl rfl
    have k2a3 := R1.cell 1 3 rfl rfl
    go_wp2_with fail
    clear k2a0 k2a1 k2a2 k2a3
    refine (qfew _ _ _ _ _ _ _ _ _).mono ?_; rintro e w2 ⟨rfl, hb2⟩
    have R2 := (R1.below hb2)
    clear hb2 R1
    rw [decide_eq_false HF.out]
    go_wp2_with fail
    go_ret
    exact ⟨rfl, R2.bel⟩
  have hfa := Lib.hid (Classical.not_not.1 hfa)
  by_cases hfb : ¬ (nb ≤ 4 ∧ nb' ≤ 4)
  · have R0 := (((Env.nil_ w).alloc 26 #[.bool ba, .slice Aa na ca, .bool ba', .slice Aa' na' ca'] (g := w.heap.size) rfl rfl).alloc 26 #[.bool bb, .slice Ab nb cb, .bool bb', .slice Ab' nb' cb'] (g := w.heap.size + 1) (by simp) rfl)
    have HF := Lib.hid hfb
    clear hfb
    go_enter Tryz.func9, Tryz.ntmps9
    go_wp2_with fail
    refine (qawake_any _).mono ?_; rintro e w1 ⟨rfl, hb1⟩
    have R1 := (R0.below hb1)
    clear hb1 R0
    have k2a0 := R1.cell 1 0 rfl rfl
    have k2a1 := R1.cell 1 1 rfl rfl
    have k2a2 := R1.cell 1 2 rfl rfl
    have k2a3 := R1.cell 1 3 rfl rfl
    go_wp2_with fail
    clear k2a0 k2a1 k2a2 k2a3
    refine (qfew _ _ _ _ _ _ _ _ _).mono ?_; rintro e w2 ⟨rfl, hb2⟩
    have R2 := (R1.below hb2)
    clear hb2 R1
    rw [decide_eq_true hfa.out]
    have k3b0 := R2.cell 0 0 rfl rfl
    have k3b1 := R2.cell 0 1 rfl rfl
    have k3b2 := R2.cell 0 2 rfl rfl
    have k3b3 := R2.cell 0 3 rfl rfl
    go_wp2_with fail
    clear k3b0 k3b1 k3b2 k3b3
    refine (qfew _ _ _ _ _ _ _ _ _).mono ?_; rintro e w3 ⟨rfl, hb3⟩
    have R3 := (R2.below hb3)
    clear hb3 R2
    rw [decide_eq_false HF.out]
    go_wp2_with fail
    go_ret
    exact ⟨rfl, R3.bel⟩
  have hfb := Lib.hid (Classical.not_not.1 hfb)
  have zan := ZIs.of_lim (b := ba) (k := 4) hra hfa.out.1
  have zad := ZIs.of_lim (b := ba') (k := 4) hra' hfa.out.2
  generalize zv ba (vl la) = xa at zan
  generalize zv ba' (vl la') = ya at zad
  obtain ⟨ra, hra_⟩ : ∃ r, qv xa ya = r := ⟨_, rfl⟩
  have Ha := Lib.hid hra_
  clear hra_ hra hra' hna hna'
  have zbn := ZIs.of_lim (b := bb) (k := 4) hrb hfb.out.1
  have zbd := ZIs.of_lim (b := bb') (k := 4) hrb' hfb.out.2
  generalize zv bb (vl lb) = xb at zbn
  generalize zv bb' (vl lb') = yb at zbd
  obtain ⟨rb, hrb_⟩ : ∃ r, qv xb yb = r := ⟨_, rfl⟩
  have Hb := Lib.hid hrb_
  clear hrb_ hrb hrb' hnb hnb'
  have R0 := (((((((Env.nil_ w).add zan).add zad).add zbn).add zbd).alloc 26 #[.bool ba, .slice Aa na ca, .bool ba', .slice Aa' na' ca'] (g := w.heap.size) rfl rfl).alloc 26 #[.bool bb, .slice Ab nb cb, .bool bb', .slice Ab' nb' cb'] (g := w.heap.size + 1) (by simp) rfl)
  clear zan zad zbn zbd
  obtain ⟨v, hv⟩ : ∃ v, (if rb = 0 then 0 else ra / rb) = v := ⟨_, rfl⟩
  have Hv := Lib.hid hv
  clear hv
  obtain ⟨z, hz⟩ : ∃ z, qcmp ra rb = z := ⟨_, rfl⟩
  have Hz := Lib.hid hz
  clear hz
  go_enter Tryz.func9, Tryz.ntmps9
  go_wp2_with fail
  refine (qawake_any _).mono ?_; rintro e w1 ⟨rfl, hb1⟩
  have R1 := (R0.below hb1)
  clear hb1 R0
  have k2a0 := R1.cell 1 0 rfl rfl
  have k2a1 := R1.cell 1 1 rfl rfl
  have k2a2 := R1.cell 1 2 rfl rfl
  have k2a3 := R1.cell 1 3 rfl rfl
  go_wp2_with fail
  clear k2a0 k2a1 k2a2 k2a3
  refine (qfew _ _ _ _ _ _ _ _ _).mono ?_; rintro e w2 ⟨rfl, hb2⟩
  have R2 := (R1.below hb2)
  clear hb2 R1
  rw [decide_eq_true hfa.out]
  have k3b0 := R2.cell 0 0 rfl rfl
  have k3b1 := R2.cell 0 1 rfl rfl
  have k3b2 := R2.cell 0 2 rfl rfl
  have k3b3 := R2.cell 0 3 rfl rfl
  go_wp2_with fail
  clear k3b0 k3b1 k3b2 k3b3
  refine (qfew _ _ _ _ _ _ _ _ _).mono ?_; rintro e w3 ⟨rfl, hb3⟩
  have R3 := (R2.below hb3)
  clear hb3 R2
  rw [decide_eq_true hfb.out]
  go_wp2_with fail
  refine (qof 2 1 ⟨by decide, by decide⟩ ⟨by decide, by decide⟩ _ qtwo_of (by decide : decide ((1 : Int) ≠ 0) = true)).mono ?_; rintro e w4 ⟨b_twon, A_twon, n_twon, b_twod, A_twod, n_twod, rfl, z_twon, z_twod, hb4⟩
  have R4 := ((((R3.below hb4).add z_twon).add z_twod).alloc 26 #[.bool b_twon, .slice A_twon n_twon n_twon, .bool b_twod, .slice A_twod n_twod n_twod] (g := w4.heap.size) rfl rfl)
  clear z_twon z_twod hb4 R3
  go_upto_region 6 with (fail)
  go_cut [7, 8] (fun p_ k_ wx => k_ = .bool true ∧ ∃ (g_m : Nat) (b_sn : Bool) (A_sn : Option Addr) (n_sn : Nat) (b_sd : Bool) (A_sd : Option Addr) (n_sd : Nat) (b_mn : Bool) (A_mn : Option Addr) (n_mn : Nat) (b_md : Bool) (A_md : Option Addr) (n_md : Nat), p_ = .pointer (some ⟨g_m, 0, none⟩) ∧ Env w wx [(g_m, 26, #[.bool b_mn, .slice A_mn n_mn n_mn, .bool b_md, .slice A_md n_md n_md]), (w4.heap.size, 26, #[.bool b_twon, .slice A_twon n_twon n_twon, .bool b_twod, .slice A_twod n_twod n_twod]), (w.heap.size + 1, 26, #[.bool bb, .slice Ab nb cb, .bool bb', .slice Ab' nb' cb']), (w.heap.size, 26, #[.bool ba, .slice Aa na ca, .bool ba', .slice Aa' na' ca'])] [⟨b_md, A_md, n_md, n_md, ((((((ra + rb) / 2) : Rat)).den : Nat) : Int), 18, true⟩, ⟨b_mn, A_mn, n_mn, n_mn, ((((ra + rb) / 2) : Rat)).num, 18, true⟩, ⟨b_sd, A_sd, n_sd, n_sd, (((((ra + rb) : Rat)).den : Nat) : Int), 9, true⟩, ⟨b_sn, A_sn, n_sn, n_sn, (((ra + rb) : Rat)).num, 9, true⟩, ⟨b_twod, A_twod, n_twod, n_twod, ((((2 : Rat)).den : Nat) : Int), 2, true⟩, ⟨b_twon, A_twon, n_twon, n_twon, ((2 : Rat)).num, 2, true⟩, ⟨bb', Ab', nb', cb', yb, 4, false⟩, ⟨bb, Ab, nb, cb, xb, 4, false⟩, ⟨ba', Aa', na', ca', ya, 4, false⟩, ⟨ba, Aa, na, ca, xa, 4, false⟩])
  case first =>
    have R5 := R4.drew
    refine wp_region_late [] (fun w' => w'.cell? ⟨w.heap.size, 0, none⟩ = some (.bool ba) ∧ w'.cell? ⟨w.heap.size, 1, none⟩ = some (.slice Aa na ca) ∧ w'.cell? ⟨w.heap.size, 2, none⟩ = some (.bool ba') ∧ w'.cell? ⟨w.heap.size, 3, none⟩ = some (.slice Aa' na' ca') ∧ w'.cell? ⟨w.heap.size + 1, 0, none⟩ = some (.bool bb) ∧ w'.cell? ⟨w.heap.size + 1, 1, none⟩ = some (.slice Ab nb cb) ∧ w'.cell? ⟨w.heap.size + 1, 2, none⟩ = some (.bool bb') ∧ w'.cell? ⟨w.heap.size + 1, 3, none⟩ = some (.slice Ab' nb' cb') ∧ w'.cell? ⟨w4.heap.size, 0, none⟩ = some (.bool b_twon) ∧ w'.cell? ⟨w4.heap.size, 1, none⟩ = some (.slice A_twon n_twon n_twon) ∧ w'.cell? ⟨w4.heap.size, 2, none⟩ = some (.bool b_twod) ∧ w'.cell? ⟨w4.heap.size, 3, none⟩ = some (.slice A_twod n_twod n_twod)) (by kernel_rfl) ?_
    generalize hgw : World.drew _ = w5 at *
    clear hgw
    have s5 := And.intro (R5.cell 2 0 rfl rfl) (And.intro (R5.cell 2 1 rfl rfl) (And.intro (R5.cell 2 2 rfl rfl) (And.intro (R5.cell 2 3 rfl rfl) (And.intro (R5.cell 1 0 rfl rfl) (And.intro (R5.cell 1 1 rfl rfl) (And.intro (R5.cell 1 2 rfl rfl) (And.intro (R5.cell 1 3 rfl rfl) (And.intro (R5.cell 0 0 rfl rfl) (And.intro (R5.cell 0 1 rfl rfl) (And.intro (R5.cell 0 2 rfl rfl) (R5.cell 0 3 rfl rfl)))))))))))
    refine wpAnyL_take (i := 0) (v := ?_) rfl (by kernel_rfl) (by kernel_rfl) (by kernel_rfl) (by kernel_rfl) (by kernel_rfl) (fun _ _ _ h => h) (Or.inl ⟨by kernel_rfl, ?_⟩) s5 ?_
    rotate_left
    · rintro w' ⟨h1, h2, h3, h4, h5, h6, h7, h8, h9, h10, h11, h12⟩; go_simp; (try with_reducible rfl)
    try simp only [Act.put, List.setIfInBounds_toArray, List.set_cons_zero, List.set_cons_succ]
    refine wpAnyL_take (i := 1) (v := ?_) rfl (by kernel_rfl) (by kernel_rfl) (by kernel_rfl) (by kernel_rfl) (by kernel_rfl) (fun _ _ _ h => h) (Or.inl ⟨by kernel_rfl, ?_⟩) s5 ?_
    rotate_left
    · rintro w' ⟨h1, h2, h3, h4, h5, h6, h7, h8, h9, h10, h11, h12⟩; go_simp; (try with_reducible rfl)
    try simp only [Act.put, List.setIfInBounds_toArray, List.set_cons_zero, List.set_cons_succ]
    refine wpAnyL_take (i := 3) (v := ?_) rfl (by kernel_rfl) (by kernel_rfl) (by kernel_rfl) (by kernel_rfl) (by kernel_rfl) (fun _ _ _ h => h) (Or.inl ⟨by kernel_rfl, ?_⟩) s5 ?_
    rotate_left
    · rintro w' ⟨h1, h2, h3, h4, h5, h6, h7, h8, h9, h10, h11, h12⟩; go_simp; (try with_reducible rfl)
    try simp only [Act.put, List.setIfInBounds_toArray, List.set_cons_zero, List.set_cons_succ]
    refine wpAnyL_all (rs := [2, 8]) (by kernel_rfl) (by simp) (StepsL.cons (i := 2) rfl (fun K hK => ?_) (StepsL.cons (i := 8) rfl (fun K hK => ?_) StepsL.nil))
    · go_simp
      refine (qadd (k := 4) (R5.z 5 rfl) (R5.z 4 rfl) (R5.z 3 rfl) (R5.z 2 rfl) (by decide) (by decide) (by decide) (by decide) (by decide) (by decide) Ha.out Hb.out).mono ?_; rintro e w6 ⟨b_sn, A_sn, n_sn, b_sd, A_sd, n_sd, rfl, z_sn, z_sd, hb6⟩
      have R6 := (((R5.below hb6).add z_sn).add z_sd)
      have s6 := And.intro (R6.cell 2 0 rfl rfl) (And.intro (R6.cell 2 1 rfl rfl) (And.intro (R6.cell 2 2 rfl rfl) (And.intro (R6.cell 2 3 rfl rfl) (And.intro (R6.cell 1 0 rfl rfl) (And.intro (R6.cell 1 1 rfl rfl) (And.intro (R6.cell 1 2 rfl rfl) (And.intro (R6.cell 1 3 rfl rfl) (And.intro (R6.cell 0 0 rfl rfl) (And.intro (R6.cell 0 1 rfl rfl) (And.intro (R6.cell 0 2 rfl rfl) (R6.cell 0 3 rfl rfl)))))))))))
      go_wp2_with fail
      refine hK.out _ _ (fun _ => s6) ?_
      clear hK K
      try simp only [Act.put, List.setIfInBounds_toArray, List.set_cons_zero, List.set_cons_succ]
      refine wpAnyL_all (rs := [4, 8]) (by kernel_rfl) (by simp) (StepsL.cons (i := 4) rfl (fun K hK => ?_) (StepsL.cons (i := 8) rfl (fun K hK => ?_) StepsL.nil))
      · go_simp
        refine (qdiv (k := 9) (R6.z 1 rfl) (R6.z 0 rfl) (R6.z 3 rfl) (R6.z 2 rfl) (by decide) (by decide) (by decide) (by decide) (by decide) (by decide) (qv_self ((ra + rb))) (qv_self (2)) (by decide)).mono ?_; rintro e w7 ⟨b_mn, A_mn, n_mn, b_md, A_md, n_md, rfl, z_mn, z_md, hb7⟩
        have R7 := (((R6.below hb7).add z_mn).add z_md)
        have s7 := And.intro (R7.cell 2 0 rfl rfl) (And.intro (R7.cell 2 1 rfl rfl) (And.intro (R7.cell 2 2 rfl rfl) (And.intro (R7.cell 2 3 rfl rfl) (And.intro (R7.cell 1 0 rfl rfl) (And.intro (R7.cell 1 1 rfl rfl) (And.intro (R7.cell 1 2 rfl rfl) (And.intro (R7.cell 1 3 rfl rfl) (And.intro (R7.cell 0 0 rfl rfl) (And.intro (R7.cell 0 1 rfl rfl) (And.intro (R7.cell 0 2 rfl rfl) (R7.cell 0 3 rfl rfl)))))))))))
        go_wp2_with fail
        refine hK.out _ _ (fun _ => s7) ?_
        clear hK K
        try simp only [Act.put, List.setIfInBounds_toArray, List.set_cons_zero, List.set_cons_succ]
        refine wpAnyL_take (i := 5) (v := ?_) rfl (by kernel_rfl) (by kernel_rfl) (by kernel_rfl) (by kernel_rfl) (by kernel_rfl) (fun _ _ _ h => h) (Or.inl ⟨by kernel_rfl, ?_⟩) s7 ?_
        rotate_left
        · rintro w' ⟨h1, h2, h3, h4, h5, h6, h7, h8, h9, h10, h11, h12⟩; go_simp; (try with_reducible rfl)
        try simp only [Act.put, List.setIfInBounds_toArray, List.set_cons_zero, List.set_cons_succ]
        refine wpAnyL_take (i := 6) (v := ?_) rfl (by kernel_rfl) (by kernel_rfl) (by kernel_rfl) (by kernel_rfl) (by kernel_rfl) (fun _ _ _ h => h) (Or.inl ⟨by kernel_rfl, ?_⟩) s7 ?_
        rotate_left
        · rintro w' ⟨h1, h2, h3, h4, h5, h6, h7, h8, h9, h10, h11, h12⟩; go_simp; (try with_reducible rfl)
        try simp only [Act.put, List.setIfInBounds_toArray, List.set_cons_zero, List.set_cons_succ]
        refine wpAnyL_take (i := 7) (v := ?_) rfl (by kernel_rfl) (by kernel_rfl) (by kernel_rfl) (by kernel_rfl) (by kernel_rfl) (fun _ _ _ h => h) (Or.inl ⟨by kernel_rfl, ?_⟩) s7 ?_
        rotate_left
        · rintro w' ⟨h1, h2, h3, h4, h5, h6, h7, h8, h9, h10, h11, h12⟩; go_simp; (try with_reducible rfl)
        try simp only [Act.put, List.setIfInBounds_toArray, List.set_cons_zero, List.set_cons_succ]
        refine wpAnyL_one (i := 8) (by kernel_rfl) rfl (fun K hK => ?_)
        go_simp
        have R8 := R7.alloc 26 #[.bool false, .slice none 0 0, .bool false, .slice none 0 0] (g := w7.heap.size) rfl rfl
        have s8 := And.intro (R8.cell 3 0 rfl rfl) (And.intro (R8.cell 3 1 rfl rfl) (And.intro (R8.cell 3 2 rfl rfl) (And.intro (R8.cell 3 3 rfl rfl) (And.intro (R8.cell 2 0 rfl rfl) (And.intro (R8.cell 2 1 rfl rfl) (And.intro (R8.cell 2 2 rfl rfl) (And.intro (R8.cell 2 3 rfl rfl) (And.intro (R8.cell 1 0 rfl rfl) (And.intro (R8.cell 1 1 rfl rfl) (And.intro (R8.cell 1 2 rfl rfl) (R8.cell 1 3 rfl rfl)))))))))))
        refine hK.out _ _ (fun _ => s8) ?_
        clear hK K
        try simp only [Act.put, List.setIfInBounds_toArray, List.set_cons_zero, List.set_cons_succ]
        generalize (w7.alloc (.cells #[.bool false, .slice none 0 0, .bool false, .slice none 0 0] 26)) = w8 at *
        refine wpAnyL_one (i := 9) (by kernel_rfl) rfl (fun K hK => ?_)
        have fc0 := R8.cell 0 0 rfl rfl
        have ff0 := R8.frozen 0 0 rfl
        have fc1 := R8.cell 0 1 rfl rfl
        have ff1 := R8.frozen 0 1 rfl
        have fc2 := R8.cell 0 2 rfl rfl
        have ff2 := R8.frozen 0 2 rfl
        have fc3 := R8.cell 0 3 rfl rfl
        have ff3 := R8.frozen 0 3 rfl
        go_simp
        clear fc0 ff0 fc1 ff1 fc2 ff2 fc3 ff3
        have R9 := R8.st4 0 (.bool b_mn) (.slice A_mn n_mn n_mn) (.bool b_md) (.slice A_md n_md n_md) rfl rfl rfl rfl rfl
        have s9 := And.intro (R9.cell 3 0 rfl rfl) (And.intro (R9.cell 3 1 rfl rfl) (And.intro (R9.cell 3 2 rfl rfl) (And.intro (R9.cell 3 3 rfl rfl) (And.intro (R9.cell 2 0 rfl rfl) (And.intro (R9.cell 2 1 rfl rfl) (And.intro (R9.cell 2 2 rfl rfl) (And.intro (R9.cell 2 3 rfl rfl) (And.intro (R9.cell 1 0 rfl rfl) (And.intro (R9.cell 1 1 rfl rfl) (And.intro (R9.cell 1 2 rfl rfl) (R9.cell 1 3 rfl rfl)))))))))))
        refine hK.out _ _ (fun _ => s9) ?_
        clear hK K
        try simp only [Act.put, List.setIfInBounds_toArray, List.set_cons_zero, List.set_cons_succ]
        generalize ((((w8.setCell ⟨w7.heap.size, 0, none⟩ (.bool b_mn)).setCell ⟨w7.heap.size, 1, none⟩ (.slice A_mn n_mn n_mn)).setCell ⟨w7.heap.size, 2, none⟩ (.bool b_md)).setCell ⟨w7.heap.size, 3, none⟩ (.slice A_md n_md n_md)) = w9 at *
        refine wpAnyL_one (i := 10) (by kernel_rfl) rfl (fun K hK => ?_)
        go_simp
        refine hK.out _ _ (fun _ => s9) ?_
        clear hK K
        try simp only [Act.put, List.setIfInBounds_toArray, List.set_cons_zero, List.set_cons_succ]
        refine wpAnyL_done (by kernel_rfl) ?_ _
        go_wp2_with fail
        go_meet
        exact ⟨rfl, _, _, _, _, _, _, _, _, _, _, _, _, _, rfl, R9⟩
      · go_simp
        have R10 := R6.alloc 26 #[.bool false, .slice none 0 0, .bool false, .slice none 0 0] (g := w6.heap.size) rfl rfl
        have s10 := And.intro (R10.cell 3 0 rfl rfl) (And.intro (R10.cell 3 1 rfl rfl) (And.intro (R10.cell 3 2 rfl rfl) (And.intro (R10.cell 3 3 rfl rfl) (And.intro (R10.cell 2 0 rfl rfl) (And.intro (R10.cell 2 1 rfl rfl) (And.intro (R10.cell 2 2 rfl rfl) (And.intro (R10.cell 2 3 rfl rfl) (And.intro (R10.cell 1 0 rfl rfl) (And.intro (R10.cell 1 1 rfl rfl) (And.intro (R10.cell 1 2 rfl rfl) (R10.cell 1 3 rfl rfl)))))))))))
        refine hK.out _ _ (fun _ => s10) ?_
        clear hK K
        try simp only [Act.put, List.setIfInBounds_toArray, List.set_cons_zero, List.set_cons_succ]
        generalize (w6.alloc (.cells #[.bool false, .slice none 0 0, .bool false, .slice none 0 0] 26)) = w10 at *
        refine wpAnyL_one (i := 4) (by kernel_rfl) rfl (fun K hK => ?_)
        go_simp
        refine (qdiv (k := 9) (R10.z 1 rfl) (R10.z 0 rfl) (R10.z 3 rfl) (R10.z 2 rfl) (by decide) (by decide) (by decide) (by decide) (by decide) (by decide) (qv_self ((ra + rb))) (qv_self (2)) (by decide)).mono ?_; rintro e w11 ⟨b_mn, A_mn, n_mn, b_md, A_md, n_md, rfl, z_mn, z_md, hb11⟩
        have R11 := (((R10.below hb11).add z_mn).add z_md)
        have s11 := And.intro (R11.cell 3 0 rfl rfl) (And.intro (R11.cell 3 1 rfl rfl) (And.intro (R11.cell 3 2 rfl rfl) (And.intro (R11.cell 3 3 rfl rfl) (And.intro (R11.cell 2 0 rfl rfl) (And.intro (R11.cell 2 1 rfl rfl) (And.intro (R11.cell 2 2 rfl rfl) (And.intro (R11.cell 2 3 rfl rfl) (And.intro (R11.cell 1 0 rfl rfl) (And.intro (R11.cell 1 1 rfl rfl) (And.intro (R11.cell 1 2 rfl rfl) (R11.cell 1 3 rfl rfl)))))))))))
        go_wp2_with fail
        refine hK.out _ _ (fun _ => s11) ?_
        clear hK K
        try simp only [Act.put, List.setIfInBounds_toArray, List.set_cons_zero, List.set_cons_succ]
        refine wpAnyL_take (i := 5) (v := ?_) rfl (by kernel_rfl) (by kernel_rfl) (by kernel_rfl) (by kernel_rfl) (by kernel_rfl) (fun _ _ _ h => h) (Or.inl ⟨by kernel_rfl, ?_⟩) s11 ?_
        rotate_left
        · rintro w' ⟨h1, h2, h3, h4, h5, h6, h7, h8, h9, h10, h11, h12⟩; go_simp; (try with_reducible rfl)
        try simp only [Act.put, List.setIfInBounds_toArray, List.set_cons_zero, List.set_cons_succ]
        refine wpAnyL_take (i := 6) (v := ?_) rfl (by kernel_rfl) (by kernel_rfl) (by kernel_rfl) (by kernel_rfl) (by kernel_rfl) (fun _ _ _ h => h) (Or.inl ⟨by kernel_rfl, ?_⟩) s11 ?_
        rotate_left
        · rintro w' ⟨h1, h2, h3, h4, h5, h6, h7, h8, h9, h10, h11, h12⟩; go_simp; (try with_reducible rfl)
        try simp only [Act.put, List.setIfInBounds_toArray, List.set_cons_zero, List.set_cons_succ]
        refine wpAnyL_take (i := 7) (v := ?_) rfl (by kernel_rfl) (by kernel_rfl) (by kernel_rfl) (by kernel_rfl) (by kernel_rfl) (fun _ _ _ h => h) (Or.inl ⟨by kernel_rfl, ?_⟩) s11 ?_
        rotate_left
        · rintro w' ⟨h1, h2, h3, h4, h5, h6, h7, h8, h9, h10, h11, h12⟩; go_simp; (try with_reducible rfl)
        try simp only [Act.put, List.setIfInBounds_toArray, List.set_cons_zero, List.set_cons_succ]
        refine wpAnyL_one (i := 9) (by kernel_rfl) rfl (fun K hK => ?_)
        have fc0 := R11.cell 0 0 rfl rfl
        have ff0 := R11.frozen 0 0 rfl
        have fc1 := R11.cell 0 1 rfl rfl
        have ff1 := R11.frozen 0 1 rfl
        have fc2 := R11.cell 0 2 rfl rfl
        have ff2 := R11.frozen 0 2 rfl
        have fc3 := R11.cell 0 3 rfl rfl
        have ff3 := R11.frozen 0 3 rfl
        go_simp
        clear fc0 ff0 fc1 ff1 fc2 ff2 fc3 ff3
        have R12 := R11.st4 0 (.bool b_mn) (.slice A_mn n_mn n_mn) (.bool b_md) (.slice A_md n_md n_md) rfl rfl rfl rfl rfl
        have s12 := And.intro (R12.cell 3 0 rfl rfl) (And.intro (R12.cell 3 1 rfl rfl) (And.intro (R12.cell 3 2 rfl rfl) (And.intro (R12.cell 3 3 rfl rfl) (And.intro (R12.cell 2 0 rfl rfl) (And.intro (R12.cell 2 1 rfl rfl) (And.intro (R12.cell 2 2 rfl rfl) (And.intro (R12.cell 2 3 rfl rfl) (And.intro (R12.cell 1 0 rfl rfl) (And.intro (R12.cell 1 1 rfl rfl) (And.intro (R12.cell 1 2 rfl rfl) (R12.cell 1 3 rfl rfl)))))))))))
        refine hK.out _ _ (fun _ => s12) ?_
        clear hK K
        try simp only [Act.put, List.setIfInBounds_toArray, List.set_cons_zero, List.set_cons_succ]
        generalize ((((w11.setCell ⟨w6.heap.size, 0, none⟩ (.bool b_mn)).setCell ⟨w6.heap.size, 1, none⟩ (.slice A_mn n_mn n_mn)).setCell ⟨w6.heap.size, 2, none⟩ (.bool b_md)).setCell ⟨w6.heap.size, 3, none⟩ (.slice A_md n_md n_md)) = w12 at *
        refine wpAnyL_one (i := 10) (by kernel_rfl) rfl (fun K hK => ?_)
        go_simp
        refine hK.out _ _ (fun _ => s12) ?_
        clear hK K
        try simp only [Act.put, List.setIfInBounds_toArray, List.set_cons_zero, List.set_cons_succ]
        refine wpAnyL_done (by kernel_rfl) ?_ _
        go_wp2_with fail
        go_meet
        exact ⟨rfl, _, _, _, _, _, _, _, _, _, _, _, _, _, rfl, R12⟩
    · go_simp
      have R13 := R5.alloc 26 #[.bool false, .slice none 0 0, .bool false, .slice none 0 0] (g := w5.heap.size) rfl rfl
      have s13 := And.intro (R13.cell 3 0 rfl rfl) (And.intro (R13.cell 3 1 rfl rfl) (And.intro (R13.cell 3 2 rfl rfl) (And.intro (R13.cell 3 3 rfl rfl) (And.intro (R13.cell 2 0 rfl rfl) (And.intro (R13.cell 2 1 rfl rfl) (And.intro (R13.cell 2 2 rfl rfl) (And.intro (R13.cell 2 3 rfl rfl) (And.intro (R13.cell 1 0 rfl rfl) (And.intro (R13.cell 1 1 rfl rfl) (And.intro (R13.cell 1 2 rfl rfl) (R13.cell 1 3 rfl rfl)))))))))))
      refine hK.out _ _ (fun _ => s13) ?_
      clear hK K
      try simp only [Act.put, List.setIfInBounds_toArray, List.set_cons_zero, List.set_cons_succ]
      generalize (w5.alloc (.cells #[.bool false, .slice none 0 0, .bool false, .slice none 0 0] 26)) = w13 at *
      refine wpAnyL_one (i := 2) (by kernel_rfl) rfl (fun K hK => ?_)
      go_simp
      refine (qadd (k := 4) (R13.z 5 rfl) (R13.z 4 rfl) (R13.z 3 rfl) (R13.z 2 rfl) (by decide) (by decide) (by decide) (by decide) (by decide) (by decide) Ha.out Hb.out).mono ?_; rintro e w14 ⟨b_sn, A_sn, n_sn, b_sd, A_sd, n_sd, rfl, z_sn, z_sd, hb14⟩
      have R14 := (((R13.below hb14).add z_sn).add z_sd)
      have s14 := And.intro (R14.cell 3 0 rfl rfl) (And.intro (R14.cell 3 1 rfl rfl) (And.intro (R14.cell 3 2 rfl rfl) (And.intro (R14.cell 3 3 rfl rfl) (And.intro (R14.cell 2 0 rfl rfl) (And.intro (R14.cell 2 1 rfl rfl) (And.intro (R14.cell 2 2 rfl rfl) (And.intro (R14.cell 2 3 rfl rfl) (And.intro (R14.cell 1 0 rfl rfl) (And.intro (R14.cell 1 1 rfl rfl) (And.intro (R14.cell 1 2 rfl rfl) (R14.cell 1 3 rfl rfl)))))))))))
      go_wp2_with fail
      refine hK.out _ _ (fun _ => s14) ?_
      clear hK K
      try simp only [Act.put, List.setIfInBounds_toArray, List.set_cons_zero, List.set_cons_succ]
      refine wpAnyL_one (i := 4) (by kernel_rfl) rfl (fun K hK => ?_)
      go_simp
      refine (qdiv (k := 9) (R14.z 1 rfl) (R14.z 0 rfl) (R14.z 3 rfl) (R14.z 2 rfl) (by decide) (by decide) (by decide) (by decide) (by decide) (by decide) (qv_self ((ra + rb))) (qv_self (2)) (by decide)).mono ?_; rintro e w15 ⟨b_mn, A_mn, n_mn, b_md, A_md, n_md, rfl, z_mn, z_md, hb15⟩
      have R15 := (((R14.below hb15).add z_mn).add z_md)
      have s15 := And.intro (R15.cell 3 0 rfl rfl) (And.intro (R15.cell 3 1 rfl rfl) (And.intro (R15.cell 3 2 rfl rfl) (And.intro (R15.cell 3 3 rfl rfl) (And.intro (R15.cell 2 0 rfl rfl) (And.intro (R15.cell 2 1 rfl rfl) (And.intro (R15.cell 2 2 rfl rfl) (And.intro (R15.cell 2 3 rfl rfl) (And.intro (R15.cell 1 0 rfl rfl) (And.intro (R15.cell 1 1 rfl rfl) (And.intro (R15.cell 1 2 rfl rfl) (R15.cell 1 3 rfl rfl)))))))))))
      go_wp2_with fail
      refine hK.out _ _ (fun _ => s15) ?_
      clear hK K
      try simp only [Act.put, List.setIfInBounds_toArray, List.set_cons_zero, List.set_cons_succ]
      refine wpAnyL_take (i := 5) (v := ?_) rfl (by kernel_rfl) (by kernel_rfl) (by kernel_rfl) (by kernel_rfl) (by kernel_rfl) (fun _ _ _ h => h) (Or.inl ⟨by kernel_rfl, ?_⟩) s15 ?_
      rotate_left
      · rintro w' ⟨h1, h2, h3, h4, h5, h6, h7, h8, h9, h10, h11, h12⟩; go_simp; (try with_reducible rfl)
      try simp only [Act.put, List.setIfInBounds_toArray, List.set_cons_zero, List.set_cons_succ]
      refine wpAnyL_take (i := 6) (v := ?_) rfl (by kernel_rfl) (by kernel_rfl) (by kernel_rfl) (by kernel_rfl) (by kernel_rfl) (fun _ _ _ h => h) (Or.inl ⟨by kernel_rfl, ?_⟩) s15 ?_
      rotate_left
      · rintro w' ⟨h1, h2, h3, h4, h5, h6, h7, h8, h9, h10, h11, h12⟩; go_simp; (try with_reducible rfl)
      try simp only [Act.put, List.setIfInBounds_toArray, List.set_cons_zero, List.set_cons_succ]
      refine wpAnyL_take (i := 7) (v := ?_) rfl (by kernel_rfl) (by kernel_rfl) (by kernel_rfl) (by kernel_rfl) (by kernel_rfl) (fun _ _ _ h => h) (Or.inl ⟨by kernel_rfl, ?_⟩) s15 ?_
      rotate_left
      · rintro w' ⟨h1, h2, h3, h4, h5, h6, h7, h8, h9, h10, h11, h12⟩; go_simp; (try with_reducible rfl)
      try simp only [Act.put, List.setIfInBounds_toArray, List.set_cons_zero, List.set_cons_succ]
      refine wpAnyL_one (i := 9) (by kernel_rfl) rfl (fun K hK => ?_)
      have fc0 := R15.cell 0 0 rfl rfl
      have ff0 := R15.frozen 0 0 rfl
      have fc1 := R15.cell 0 1 rfl rfl
      have ff1 := R15.frozen 0 1 rfl
      have fc2 := R15.cell 0 2 rfl rfl
      have ff2 := R15.frozen 0 2 rfl
      have fc3 := R15.cell 0 3 rfl rfl
      have ff3 := R15.frozen 0 3 rfl
      go_simp
      clear fc0 ff0 fc1 ff1 fc2 ff2 fc3 ff3
      have R16 := R15.st4 0 (.bool b_mn) (.slice A_mn n_mn n_mn) (.bool b_md) (.slice A_md n_md n_md) rfl rfl rfl rfl rfl
      have s16 := And.intro (R16.cell 3 0 rfl rfl) (And.intro (R16.cell 3 1 rfl rfl) (And.intro (R16.cell 3 2 rfl rfl) (And.intro (R16.cell 3 3 rfl rfl) (And.intro (R16.cell 2 0 rfl rfl) (And.intro (R16.cell 2 1 rfl rfl) (And.intro (R16.cell 2 2 rfl rfl) (And.intro (R16.cell 2 3 rfl rfl) (And.intro (R16.cell 1 0 rfl rfl) (And.intro (R16.cell 1 1 rfl rfl) (And.intro (R16.cell 1 2 rfl rfl) (R16.cell 1 3 rfl rfl)))))))))))
      refine hK.out _ _ (fun _ => s16) ?_
      clear hK K
      try simp only [Act.put, List.setIfInBounds_toArray, List.set_cons_zero, List.set_cons_succ]
      generalize ((((w15.setCell ⟨w5.heap.size, 0, none⟩ (.bool b_mn)).setCell ⟨w5.heap.size, 1, none⟩ (.slice A_mn n_mn n_mn)).setCell ⟨w5.heap.size, 2, none⟩ (.bool b_md)).setCell ⟨w5.heap.size, 3, none⟩ (.slice A_md n_md n_md)) = w16 at *
      refine wpAnyL_one (i := 10) (by kernel_rfl) rfl (fun K hK => ?_)
      go_simp
      refine hK.out _ _ (fun _ => s16) ?_
      clear hK K
      try simp only [Act.put, List.setIfInBounds_toArray, List.set_cons_zero, List.set_cons_succ]
      refine wpAnyL_done (by kernel_rfl) ?_ _
      go_wp2_with fail
      go_meet
      exact ⟨rfl, _, _, _, _, _, _, _, _, _, _, _, _, _, rfl, R16⟩
  case rest =>
    obtain ⟨rfl, g_m, b_sn, A_sn, n_sn, b_sd, A_sd, n_sd, b_mn, A_mn, n_mn, b_md, A_md, n_md, rfl, R116⟩ := hcut
    have k117a0 := R116.cell 3 0 rfl rfl
    have k117a1 := R116.cell 3 1 rfl rfl
    have k117a2 := R116.cell 3 2 rfl rfl
    have k117a3 := R116.cell 3 3 rfl rfl
    have k117b0 := R116.cell 2 0 rfl rfl
    have k117b1 := R116.cell 2 1 rfl rfl
    have k117b2 := R116.cell 2 2 rfl rfl
    have k117b3 := R116.cell 2 3 rfl rfl
    go_wp2_with fail
    clear k117a0 k117a1 k117a2 k117a3 k117b0 k117b1 k117b2 k117b3
    refine (qcmp_ (k := 4) (R116.z 9 rfl) (R116.z 8 rfl) (R116.z 7 rfl) (R116.z 6 rfl) (by decide) (by decide) (by decide) (by decide) (by decide) (by decide) Ha.out Hb.out Hz.out).mono ?_; rintro e w117 ⟨rfl, hb117⟩
    have R117 := (R116.below hb117)
    clear hb117 R116
    obtain ⟨ok, hok⟩ : ∃ ok, decide (rb ≠ 0) = ok := ⟨_, rfl⟩
    have Hok := Lib.hid hok
    clear hok
    have k118a0 := R117.cell 3 0 rfl rfl
    have k118a1 := R117.cell 3 1 rfl rfl
    have k118a2 := R117.cell 3 2 rfl rfl
    have k118a3 := R117.cell 3 3 rfl rfl
    have k118b0 := R117.cell 2 0 rfl rfl
    have k118b1 := R117.cell 2 1 rfl rfl
    have k118b2 := R117.cell 2 2 rfl rfl
    have k118b3 := R117.cell 2 3 rfl rfl
    go_wp2_with fail
    clear k118a0 k118a1 k118a2 k118a3 k118b0 k118b1 k118b2 k118b3
    refine (qdiv_b (k := 4) (R117.z 9 rfl) (R117.z 8 rfl) (R117.z 7 rfl) (R117.z 6 rfl) (by decide) (by decide) (by decide) (by decide) (by decide) (by decide) Ha.out Hb.out Hv.out Hok.out).mono ?_; rintro e w118 ⟨b_qn, A_qn, n_qn, b_qd, A_qd, n_qd, rfl, z_qn, z_qd, hb118⟩
    have R118 := ((((R117.below hb118).add z_qn).add z_qd).alloc 26 #[.bool b_qn, .slice A_qn n_qn n_qn, .bool b_qd, .slice A_qd n_qd n_qd] (g := w118.heap.size) rfl rfl)
    clear z_qn z_qd hb118 R117
    have ez : (z != z) = false := by simp
    go_wp2_with fail
    have D119 := R118.drew
    have s119 := And.intro (D119.cell 4 0 rfl rfl) (And.intro (D119.cell 4 1 rfl rfl) (And.intro (D119.cell 4 2 rfl rfl) (And.intro (D119.cell 4 3 rfl rfl) (And.intro (D119.cell 3 0 rfl rfl) (And.intro (D119.cell 3 1 rfl rfl) (And.intro (D119.cell 3 2 rfl rfl) (And.intro (D119.cell 3 3 rfl rfl) (And.intro (D119.cell 1 0 rfl rfl) (And.intro (D119.cell 1 1 rfl rfl) (And.intro (D119.cell 1 2 rfl rfl) (D119.cell 1 3 rfl rfl)))))))))))
    refine wp_region_late [] (fun w' => w'.cell? ⟨w.heap.size, 0, none⟩ = some (.bool ba) ∧ w'.cell? ⟨w.heap.size, 1, none⟩ = some (.slice Aa na ca) ∧ w'.cell? ⟨w.heap.size, 2, none⟩ = some (.bool ba') ∧ w'.cell? ⟨w.heap.size, 3, none⟩ = some (.slice Aa' na' ca') ∧ w'.cell? ⟨w.heap.size + 1, 0, none⟩ = some (.bool bb) ∧ w'.cell? ⟨w.heap.size + 1, 1, none⟩ = some (.slice Ab nb cb) ∧ w'.cell? ⟨w.heap.size + 1, 2, none⟩ = some (.bool bb') ∧ w'.cell? ⟨w.heap.size + 1, 3, none⟩ = some (.slice Ab' nb' cb') ∧ w'.cell? ⟨g_m, 0, none⟩ = some (.bool b_mn) ∧ w'.cell? ⟨g_m, 1, none⟩ = some (.slice A_mn n_mn n_mn) ∧ w'.cell? ⟨g_m, 2, none⟩ = some (.bool b_md) ∧ w'.cell? ⟨g_m, 3, none⟩ = some (.slice A_md n_md n_md)) (by kernel_rfl) ?_
    refine wpAnyL_take (i := 0) (v := ?_) rfl (by kernel_rfl) (by kernel_rfl) (by kernel_rfl) (by kernel_rfl) (by kernel_rfl) (fun _ _ _ h => h) (Or.inl ⟨by kernel_rfl, ?_⟩) s119 ?_
    rotate_left
    · rintro w' ⟨h1, h2, h3, h4, h5, h6, h7, h8, h9, h10, h11, h12⟩; go_simp; (try with_reducible rfl)
    try simp only [Act.put, List.getElem_toArray, List.getElem_cons_succ, List.getElem_cons_zero, List.setIfInBounds_toArray, List.set_cons_zero, List.set_cons_succ]
    refine wpAnyL_take (i := 1) (v := ?_) rfl (by kernel_rfl) (by kernel_rfl) (by kernel_rfl) (by kernel_rfl) (by kernel_rfl) (fun _ _ _ h => h) (Or.inl ⟨by kernel_rfl, ?_⟩) s119 ?_
    rotate_left
    · rintro w' ⟨h1, h2, h3, h4, h5, h6, h7, h8, h9, h10, h11, h12⟩; go_simp; (try with_reducible rfl)
    try simp only [Act.put, List.getElem_toArray, List.getElem_cons_succ, List.getElem_cons_zero, List.setIfInBounds_toArray, List.set_cons_zero, List.set_cons_succ]
    refine wpAnyL_take (i := 2) (v := ?_) rfl (by kernel_rfl) (by kernel_rfl) (by kernel_rfl) (by kernel_rfl) (by kernel_rfl) (fun _ _ _ h => h) (Or.inl ⟨by kernel_rfl, ?_⟩) s119 ?_
    rotate_left
    · rintro w' ⟨h1, h2, h3, h4, h5, h6, h7, h8, h9, h10, h11, h12⟩; go_simp; (try with_reducible rfl)
    try simp only [Act.put, List.getElem_toArray, List.getElem_cons_succ, List.getElem_cons_zero, List.setIfInBounds_toArray, List.set_cons_zero, List.set_cons_succ]
    refine wpAnyL_take (i := 3) (v := ?_) rfl (by kernel_rfl) (by kernel_rfl) (by kernel_rfl) (by kernel_rfl) (by kernel_rfl) (fun _ _ _ h => h) (Or.inl ⟨by kernel_rfl, ?_⟩) s119 ?_
    rotate_left
    · rintro w' ⟨h1, h2, h3, h4, h5, h6, h7, h8, h9, h10, h11, h12⟩; go_simp; (try with_reducible rfl)
    try simp only [Act.put, List.getElem_toArray, List.getElem_cons_succ, List.getElem_cons_zero, List.setIfInBounds_toArray, List.set_cons_zero, List.set_cons_succ]
    refine wpAnyL_take (i := 4) (v := ?_) rfl (by kernel_rfl) (by kernel_rfl) (by kernel_rfl) (by kernel_rfl) (by kernel_rfl) (fun _ _ _ h => h) (Or.inl ⟨by kernel_rfl, ?_⟩) s119 ?_
    rotate_left
    · rintro w' ⟨h1, h2, h3, h4, h5, h6, h7, h8, h9, h10, h11, h12⟩; go_simp; (try with_reducible rfl)
    try simp only [Act.put, List.getElem_toArray, List.getElem_cons_succ, List.getElem_cons_zero, List.setIfInBounds_toArray, List.set_cons_zero, List.set_cons_succ]
    refine wpAnyL_take (i := 6) (v := ?_) rfl (by kernel_rfl) (by kernel_rfl) (by kernel_rfl) (by kernel_rfl) (by kernel_rfl) (fun _ _ _ h => h) (Or.inl ⟨by kernel_rfl, ?_⟩) s119 ?_
    rotate_left
    · rintro w' ⟨h1, h2, h3, h4, h5, h6, h7, h8, h9, h10, h11, h12⟩; go_simp; (try with_reducible rfl)
    try simp only [Act.put, List.getElem_toArray, List.getElem_cons_succ, List.getElem_cons_zero, List.setIfInBounds_toArray, List.set_cons_zero, List.set_cons_succ]
    refine wpAnyL_one (i := 5) (by kernel_rfl) rfl (fun K hK => ?_)
    go_simp
    refine (qcmp_ (k := 18) (D119.z 11 rfl) (D119.z 10 rfl) (D119.z 3 rfl) (D119.z 2 rfl) (by decide) (by decide) (by decide) (by decide) (by decide) (by decide) Ha.out (qv_self (((ra + rb) / 2))) ((qmid_a ra rb).trans Hz.out)).mono ?_; rintro e w120 ⟨rfl, hb120⟩
    have R120 := (D119.below hb120)
    have s120 := And.intro (R120.cell 4 0 rfl rfl) (And.intro (R120.cell 4 1 rfl rfl) (And.intro (R120.cell 4 2 rfl rfl) (And.intro (R120.cell 4 3 rfl rfl) (And.intro (R120.cell 3 0 rfl rfl) (And.intro (R120.cell 3 1 rfl rfl) (And.intro (R120.cell 3 2 rfl rfl) (And.intro (R120.cell 3 3 rfl rfl) (And.intro (R120.cell 1 0 rfl rfl) (And.intro (R120.cell 1 1 rfl rfl) (And.intro (R120.cell 1 2 rfl rfl) (R120.cell 1 3 rfl rfl)))))))))))
    clear hb120 D119 s119
    go_wp2_with fail
    refine hK.out _ _ (fun _ => s120) ?_
    clear hK K
    try simp only [Act.put, List.getElem_toArray, List.getElem_cons_succ, List.getElem_cons_zero, List.setIfInBounds_toArray, List.set_cons_zero, List.set_cons_succ]
    refine wpAnyL_take (i := 7) (v := ?_) rfl (by kernel_rfl) (by kernel_rfl) (by kernel_rfl) (by kernel_rfl) (by kernel_rfl) (fun _ _ _ h => h) (Or.inl ⟨by kernel_rfl, ?_⟩) s120 ?_
    rotate_left
    · rintro w' ⟨h1, h2, h3, h4, h5, h6, h7, h8, h9, h10, h11, h12⟩; go_simp; (try with_reducible rfl)
    try simp only [Act.put, List.getElem_toArray, List.getElem_cons_succ, List.getElem_cons_zero, List.setIfInBounds_toArray, List.set_cons_zero, List.set_cons_succ]
    refine wpAnyL_take (i := 8) (v := ?_) rfl (by kernel_rfl) (by kernel_rfl) (by kernel_rfl) (by kernel_rfl) (by kernel_rfl) (fun _ _ _ h => h) (Or.inl ⟨by kernel_rfl, ?_⟩) s120 ?_
    rotate_left
    · rintro w' ⟨h1, h2, h3, h4, h5, h6, h7, h8, h9, h10, h11, h12⟩; go_simp; (try with_reducible rfl)
    try simp only [Act.put, List.getElem_toArray, List.getElem_cons_succ, List.getElem_cons_zero, List.setIfInBounds_toArray, List.set_cons_zero, List.set_cons_succ]
    refine wpAnyL_take (i := 9) (v := ?_) rfl (by kernel_rfl) (by kernel_rfl) (by kernel_rfl) (by kernel_rfl) (by kernel_rfl) (fun _ _ _ h => h) (Or.inl ⟨by kernel_rfl, ?_⟩) s120 ?_
    rotate_left
    · rintro w' ⟨h1, h2, h3, h4, h5, h6, h7, h8, h9, h10, h11, h12⟩; go_simp; (try with_reducible rfl)
    try simp only [Act.put, List.getElem_toArray, List.getElem_cons_succ, List.getElem_cons_zero, List.setIfInBounds_toArray, List.set_cons_zero, List.set_cons_succ]
    refine wpAnyL_take (i := 10) (v := ?_) rfl (by kernel_rfl) (by kernel_rfl) (by kernel_rfl) (by kernel_rfl) (by kernel_rfl) (fun _ _ _ h => h) (Or.inl ⟨by kernel_rfl, ?_⟩) s120 ?_
    rotate_left
    · rintro w' ⟨h1, h2, h3, h4, h5, h6, h7, h8, h9, h10, h11, h12⟩; go_simp; (try with_reducible rfl)
    try simp only [Act.put, List.getElem_toArray, List.getElem_cons_succ, List.getElem_cons_zero, List.setIfInBounds_toArray, List.set_cons_zero, List.set_cons_succ]
    refine wpAnyL_take (i := 11) (v := ?_) rfl (by kernel_rfl) (by kernel_rfl) (by kernel_rfl) (by kernel_rfl) (by kernel_rfl) (fun _ _ _ h => h) (Or.inl ⟨by kernel_rfl, ?_⟩) s120 ?_
    rotate_left
    · rintro w' ⟨h1, h2, h3, h4, h5, h6, h7, h8, h9, h10, h11, h12⟩; go_simp; (try with_reducible rfl)
    try simp only [Act.put, List.getElem_toArray, List.getElem_cons_succ, List.getElem_cons_zero, List.setIfInBounds_toArray, List.set_cons_zero, List.set_cons_succ]
    refine wpAnyL_take (i := 13) (v := ?_) rfl (by kernel_rfl) (by kernel_rfl) (by kernel_rfl) (by kernel_rfl) (by kernel_rfl) (fun _ _ _ h => h) (Or.inl ⟨by kernel_rfl, ?_⟩) s120 ?_
    rotate_left
    · rintro w' ⟨h1, h2, h3, h4, h5, h6, h7, h8, h9, h10, h11, h12⟩; go_simp; (try with_reducible rfl)
    try simp only [Act.put, List.getElem_toArray, List.getElem_cons_succ, List.getElem_cons_zero, List.setIfInBounds_toArray, List.set_cons_zero, List.set_cons_succ]
    refine wpAnyL_one (i := 12) (by kernel_rfl) rfl (fun K hK => ?_)
    go_simp
    refine (qcmp_ (k := 18) (R120.z 3 rfl) (R120.z 2 rfl) (R120.z 9 rfl) (R120.z 8 rfl) (by decide) (by decide) (by decide) (by decide) (by decide) (by decide) (qv_self (((ra + rb) / 2))) Hb.out ((qmid_b ra rb).trans Hz.out)).mono ?_; rintro e w121 ⟨rfl, hb121⟩
    have R121 := (R120.below hb121)
    have s121 := And.intro (R121.cell 4 0 rfl rfl) (And.intro (R121.cell 4 1 rfl rfl) (And.intro (R121.cell 4 2 rfl rfl) (And.intro (R121.cell 4 3 rfl rfl) (And.intro (R121.cell 3 0 rfl rfl) (And.intro (R121.cell 3 1 rfl rfl) (And.intro (R121.cell 3 2 rfl rfl) (And.intro (R121.cell 3 3 rfl rfl) (And.intro (R121.cell 1 0 rfl rfl) (And.intro (R121.cell 1 1 rfl rfl) (And.intro (R121.cell 1 2 rfl rfl) (R121.cell 1 3 rfl rfl)))))))))))
    clear hb121 R120 s120
    go_wp2_with fail
    refine hK.out _ _ (fun _ => s121) ?_
    clear hK K
    try simp only [Act.put, List.getElem_toArray, List.getElem_cons_succ, List.getElem_cons_zero, List.setIfInBounds_toArray, List.set_cons_zero, List.set_cons_succ]
    refine wpAnyL_take (i := 14) (v := ?_) rfl (by kernel_rfl) (by kernel_rfl) (by kernel_rfl) (by kernel_rfl) (by kernel_rfl) (fun _ _ _ h => h) (Or.inl ⟨by kernel_rfl, ?_⟩) s121 ?_
    rotate_left
    · rintro w' ⟨h1, h2, h3, h4, h5, h6, h7, h8, h9, h10, h11, h12⟩; go_simp; (try with_reducible rfl)
    try simp only [Act.put, List.getElem_toArray, List.getElem_cons_succ, List.getElem_cons_zero, List.setIfInBounds_toArray, List.set_cons_zero, List.set_cons_succ]
    refine wpAnyL_take (i := 15) (v := ?_) rfl (by kernel_rfl) (by kernel_rfl) (by kernel_rfl) (by kernel_rfl) (by kernel_rfl) (fun _ _ _ h => h) (Or.inl ⟨by kernel_rfl, ?_⟩) s121 ?_
    rotate_left
    · rintro w' ⟨h1, h2, h3, h4, h5, h6, h7, h8, h9, h10, h11, h12⟩; go_simp; (try with_reducible rfl)
    try simp only [Act.put, List.getElem_toArray, List.getElem_cons_succ, List.getElem_cons_zero, List.setIfInBounds_toArray, List.set_cons_zero, List.set_cons_succ]
    refine wpAnyL_take (i := 16) (v := ?_) rfl (by kernel_rfl) (by kernel_rfl) (by kernel_rfl) (by kernel_rfl) (by kernel_rfl) (fun _ _ _ h => h) (Or.inl ⟨by kernel_rfl, ?_⟩) s121 ?_
    rotate_left
    · rintro w' ⟨h1, h2, h3, h4, h5, h6, h7, h8, h9, h10, h11, h12⟩; go_simp; (try with_reducible rfl)
    try simp only [Act.put, List.getElem_toArray, List.getElem_cons_succ, List.getElem_cons_zero, List.setIfInBounds_toArray, List.set_cons_zero, List.set_cons_succ]
    refine wpAnyL_take (i := 17) (v := ?_) rfl (by kernel_rfl) (by kernel_rfl) (by kernel_rfl) (by kernel_rfl) (by kernel_rfl) (fun _ _ _ h => h) (Or.inl ⟨by kernel_rfl, ?_⟩) s121 ?_
    rotate_left
    · rintro w' ⟨h1, h2, h3, h4, h5, h6, h7, h8, h9, h10, h11, h12⟩; go_simp; (try with_reducible rfl)
    try simp only [Act.put, List.getElem_toArray, List.getElem_cons_succ, List.getElem_cons_zero, List.setIfInBounds_toArray, List.set_cons_zero, List.set_cons_succ]
    refine wpAnyL_take (i := 18) (v := ?_) rfl (by kernel_rfl) (by kernel_rfl) (by kernel_rfl) (by kernel_rfl) (by kernel_rfl) (fun _ _ _ h => h) (Or.inl ⟨by kernel_rfl, ?_⟩) s121 ?_
    rotate_left
    · rintro w' ⟨h1, h2, h3, h4, h5, h6, h7, h8, h9, h10, h11, h12⟩; go_simp; (try with_reducible rfl)
    try simp only [Act.put, List.getElem_toArray, List.getElem_cons_succ, List.getElem_cons_zero, List.setIfInBounds_toArray, List.set_cons_zero, List.set_cons_succ]
    refine wpAnyL_take (i := 20) (v := ?_) rfl (by kernel_rfl) (by kernel_rfl) (by kernel_rfl) (by kernel_rfl) (by kernel_rfl) (fun _ _ _ h => h) (Or.inl ⟨by kernel_rfl, ?_⟩) s121 ?_
    rotate_left
    · rintro w' ⟨h1, h2, h3, h4, h5, h6, h7, h8, h9, h10, h11, h12⟩; go_simp; (try with_reducible rfl)
    try simp only [Act.put, List.getElem_toArray, List.getElem_cons_succ, List.getElem_cons_zero, List.setIfInBounds_toArray, List.set_cons_zero, List.set_cons_succ]
    refine wpAnyL_take (i := 22) (v := ?_) rfl (by kernel_rfl) (by kernel_rfl) (by kernel_rfl) (by kernel_rfl) (by kernel_rfl) (fun _ _ _ h => h) (Or.inl ⟨by kernel_rfl, ?_⟩) s121 ?_
    rotate_left
    · rintro w' ⟨h1, h2, h3, h4, h5, h6, h7, h8, h9, h10, h11, h12⟩; go_simp; (try with_reducible rfl)
    try simp only [Act.put, List.getElem_toArray, List.getElem_cons_succ, List.getElem_cons_zero, List.setIfInBounds_toArray, List.set_cons_zero, List.set_cons_succ]
    refine wpAnyL_one (i := 19) (by kernel_rfl) rfl (fun K hK => ?_)
    go_simp
    refine (qsub (k := 4) (R121.z 11 rfl) (R121.z 10 rfl) (R121.z 9 rfl) (R121.z 8 rfl) (by decide) (by decide) (by decide) (by decide) (by decide) (by decide) Ha.out Hb.out).mono ?_; rintro e w122 ⟨b_dn, A_dn, n_dn, b_dd, A_dd, n_dd, rfl, z_dn, z_dd, hb122⟩
    have R122 := (((R121.below hb122).add z_dn).add z_dd)
    have s122 := And.intro (R122.cell 4 0 rfl rfl) (And.intro (R122.cell 4 1 rfl rfl) (And.intro (R122.cell 4 2 rfl rfl) (And.intro (R122.cell 4 3 rfl rfl) (And.intro (R122.cell 3 0 rfl rfl) (And.intro (R122.cell 3 1 rfl rfl) (And.intro (R122.cell 3 2 rfl rfl) (And.intro (R122.cell 3 3 rfl rfl) (And.intro (R122.cell 1 0 rfl rfl) (And.intro (R122.cell 1 1 rfl rfl) (And.intro (R122.cell 1 2 rfl rfl) (R122.cell 1 3 rfl rfl)))))))))))
    clear z_dn z_dd hb122 R121 s121
    go_wp2_with fail
    refine hK.out _ _ (fun _ => s122) ?_
    clear hK K
    try simp only [Act.put, List.getElem_toArray, List.getElem_cons_succ, List.getElem_cons_zero, List.setIfInBounds_toArray, List.set_cons_zero, List.set_cons_succ]
    refine wpAnyL_one (i := 21) (by kernel_rfl) rfl (fun K hK => ?_)
    go_simp
    refine (qadd (k := 9) (R122.z 1 rfl) (R122.z 0 rfl) (R122.z 11 rfl) (R122.z 10 rfl) (by decide) (by decide) (by decide) (by decide) (by decide) (by decide) (qv_self ((ra - rb))) Hb.out).mono ?_; rintro e w123 ⟨b_en, A_en, n_en, b_ed, A_ed, n_ed, rfl, z_en, z_ed, hb123⟩
    have R123 := (((R122.below hb123).add z_en).add z_ed)
    have s123 := And.intro (R123.cell 4 0 rfl rfl) (And.intro (R123.cell 4 1 rfl rfl) (And.intro (R123.cell 4 2 rfl rfl) (And.intro (R123.cell 4 3 rfl rfl) (And.intro (R123.cell 3 0 rfl rfl) (And.intro (R123.cell 3 1 rfl rfl) (And.intro (R123.cell 3 2 rfl rfl) (And.intro (R123.cell 3 3 rfl rfl) (And.intro (R123.cell 1 0 rfl rfl) (And.intro (R123.cell 1 1 rfl rfl) (And.intro (R123.cell 1 2 rfl rfl) (R123.cell 1 3 rfl rfl)))))))))))
    clear z_en z_ed hb123 R122 s122
    go_wp2_with fail
    refine hK.out _ _ (fun _ => s123) ?_
    clear hK K
    try simp only [Act.put, List.getElem_toArray, List.getElem_cons_succ, List.getElem_cons_zero, List.setIfInBounds_toArray, List.set_cons_zero, List.set_cons_succ]
    refine wpAnyL_one (i := 23) (by kernel_rfl) rfl (fun K hK => ?_)
    go_simp
    refine (rqplain (K := 4) (R123.z 15 rfl) (R123.z 14 rfl) (by decide) (by decide) (by decide) (by decide) Ha.out).mono ?_; rintro e w124 ⟨b_pan, A_pan, n_pan, c_pan, b_pad, A_pad, n_pad, c_pad, rfl, z_pan, z_pad, hb124⟩
    have R124 := (((R123.below hb124).add z_pan).add z_pad)
    have s124 := And.intro (R124.cell 4 0 rfl rfl) (And.intro (R124.cell 4 1 rfl rfl) (And.intro (R124.cell 4 2 rfl rfl) (And.intro (R124.cell 4 3 rfl rfl) (And.intro (R124.cell 3 0 rfl rfl) (And.intro (R124.cell 3 1 rfl rfl) (And.intro (R124.cell 3 2 rfl rfl) (And.intro (R124.cell 3 3 rfl rfl) (And.intro (R124.cell 1 0 rfl rfl) (And.intro (R124.cell 1 1 rfl rfl) (And.intro (R124.cell 1 2 rfl rfl) (R124.cell 1 3 rfl rfl)))))))))))
    clear z_pan z_pad hb124 R123 s123
    go_wp2_with fail
    refine hK.out _ _ (fun _ => s124) ?_
    clear hK K
    try simp only [Act.put, List.getElem_toArray, List.getElem_cons_succ, List.getElem_cons_zero, List.setIfInBounds_toArray, List.set_cons_zero, List.set_cons_succ]
    refine wpAnyL_one (i := 24) (by kernel_rfl) rfl (fun K hK => ?_)
    go_simp
    refine (rqsame (R124.z 3 rfl) (R124.z 2 rfl) (R124.z 1 rfl) (R124.z 0 rfl) (by decide) (by decide) (by decide) (by decide) (qsame_eq Rat.sub_add_cancel)).mono ?_; rintro e w125 ⟨rfl, hb125⟩
    have R125 := (R124.below hb125)
    have s125 := And.intro (R125.cell 4 0 rfl rfl) (And.intro (R125.cell 4 1 rfl rfl) (And.intro (R125.cell 4 2 rfl rfl) (And.intro (R125.cell 4 3 rfl rfl) (And.intro (R125.cell 3 0 rfl rfl) (And.intro (R125.cell 3 1 rfl rfl) (And.intro (R125.cell 3 2 rfl rfl) (And.intro (R125.cell 3 3 rfl rfl) (And.intro (R125.cell 1 0 rfl rfl) (And.intro (R125.cell 1 1 rfl rfl) (And.intro (R125.cell 1 2 rfl rfl) (R125.cell 1 3 rfl rfl)))))))))))
    clear hb125 R124 s124
    go_wp2_with fail
    refine hK.out _ _ (fun _ => s125) ?_
    clear hK K
    try simp only [Act.put, List.getElem_toArray, List.getElem_cons_succ, List.getElem_cons_zero, List.setIfInBounds_toArray, List.set_cons_zero, List.set_cons_succ]
    refine wpAnyL_take (i := 25) (v := ?_) rfl (by kernel_rfl) (by kernel_rfl) (by kernel_rfl) (by kernel_rfl) (by kernel_rfl) (fun _ _ _ h => h) (Or.inl ⟨by kernel_rfl, ?_⟩) s125 ?_
    rotate_left
    · rintro w' ⟨h1, h2, h3, h4, h5, h6, h7, h8, h9, h10, h11, h12⟩; go_simp; (try with_reducible rfl)
    try simp only [Act.put, List.getElem_toArray, List.getElem_cons_succ, List.getElem_cons_zero, List.setIfInBounds_toArray, List.set_cons_zero, List.set_cons_succ]
    refine wpAnyL_take (i := 26) (v := ?_) rfl (by kernel_rfl) (by kernel_rfl) (by kernel_rfl) (by kernel_rfl) (by kernel_rfl) (fun _ _ _ h => h) (Or.inl ⟨by kernel_rfl, ?_⟩) s125 ?_
    rotate_left
    · rintro w' ⟨h1, h2, h3, h4, h5, h6, h7, h8, h9, h10, h11, h12⟩; go_simp; (try with_reducible rfl)
    try simp only [Act.put, List.getElem_toArray, List.getElem_cons_succ, List.getElem_cons_zero, List.setIfInBounds_toArray, List.set_cons_zero, List.set_cons_succ]
    refine wpAnyL_done (by kernel_rfl) ?_ _
    by_cases h0 : rb = 0
    · have H0 := Lib.hid h0
      clear h0
      obtain rfl : false = ok := (decide_eq_false (fun e => e H0.out)).symm.trans Hok.out
      go_wp2_with fail
      have D126 := R125.drew
      have s126 := And.intro (D126.cell 4 0 rfl rfl) (And.intro (D126.cell 4 1 rfl rfl) (And.intro (D126.cell 4 2 rfl rfl) (And.intro (D126.cell 4 3 rfl rfl) (And.intro (D126.cell 3 0 rfl rfl) (And.intro (D126.cell 3 1 rfl rfl) (And.intro (D126.cell 3 2 rfl rfl) (And.intro (D126.cell 3 3 rfl rfl) (And.intro (D126.cell 0 0 rfl rfl) (And.intro (D126.cell 0 1 rfl rfl) (And.intro (D126.cell 0 2 rfl rfl) (D126.cell 0 3 rfl rfl)))))))))))
      refine wp_region_late [] (fun w' => w'.cell? ⟨w.heap.size, 0, none⟩ = some (.bool ba) ∧ w'.cell? ⟨w.heap.size, 1, none⟩ = some (.slice Aa na ca) ∧ w'.cell? ⟨w.heap.size, 2, none⟩ = some (.bool ba') ∧ w'.cell? ⟨w.heap.size, 3, none⟩ = some (.slice Aa' na' ca') ∧ w'.cell? ⟨w.heap.size + 1, 0, none⟩ = some (.bool bb) ∧ w'.cell? ⟨w.heap.size + 1, 1, none⟩ = some (.slice Ab nb cb) ∧ w'.cell? ⟨w.heap.size + 1, 2, none⟩ = some (.bool bb') ∧ w'.cell? ⟨w.heap.size + 1, 3, none⟩ = some (.slice Ab' nb' cb') ∧ w'.cell? ⟨w118.heap.size, 0, none⟩ = some (.bool b_qn) ∧ w'.cell? ⟨w118.heap.size, 1, none⟩ = some (.slice A_qn n_qn n_qn) ∧ w'.cell? ⟨w118.heap.size, 2, none⟩ = some (.bool b_qd) ∧ w'.cell? ⟨w118.heap.size, 3, none⟩ = some (.slice A_qd n_qd n_qd)) (by kernel_rfl) ?_
      refine wpAnyL_take (i := 0) (v := ?_) rfl (by kernel_rfl) (by kernel_rfl) (by kernel_rfl) (by kernel_rfl) (by kernel_rfl) (fun _ _ _ h => h) (Or.inl ⟨by kernel_rfl, ?_⟩) s126 ?_
      rotate_left
      · rintro w' ⟨h1, h2, h3, h4, h5, h6, h7, h8, h9, h10, h11, h12⟩; go_simp; (try with_reducible rfl)
      try simp only [Act.put, List.getElem_toArray, List.getElem_cons_succ, List.getElem_cons_zero, List.setIfInBounds_toArray, List.set_cons_zero, List.set_cons_succ]
      refine wpAnyL_take (i := 1) (v := ?_) rfl (by kernel_rfl) (by kernel_rfl) (by kernel_rfl) (by kernel_rfl) (by kernel_rfl) (fun _ _ _ h => h) (Or.inl ⟨by kernel_rfl, ?_⟩) s126 ?_
      rotate_left
      · rintro w' ⟨h1, h2, h3, h4, h5, h6, h7, h8, h9, h10, h11, h12⟩; go_simp; (try with_reducible rfl)
      try simp only [Act.put, List.getElem_toArray, List.getElem_cons_succ, List.getElem_cons_zero, List.setIfInBounds_toArray, List.set_cons_zero, List.set_cons_succ]
      refine wpAnyL_take (i := 2) (v := ?_) rfl (by kernel_rfl) (by kernel_rfl) (by kernel_rfl) (by kernel_rfl) (by kernel_rfl) (fun _ _ _ h => h) (Or.inl ⟨by kernel_rfl, ?_⟩) s126 ?_
      rotate_left
      · rintro w' ⟨h1, h2, h3, h4, h5, h6, h7, h8, h9, h10, h11, h12⟩; go_simp; (try with_reducible rfl)
      try simp only [Act.put, List.getElem_toArray, List.getElem_cons_succ, List.getElem_cons_zero, List.setIfInBounds_toArray, List.set_cons_zero, List.set_cons_succ]
      refine wpAnyL_take (i := 3) (v := undef) rfl (by kernel_rfl) (by kernel_rfl) (by kernel_rfl) (by kernel_rfl) (by kernel_rfl) (fun _ _ _ h => h) (Or.inr ⟨by kernel_rfl, rfl⟩) s126 ?_
      try simp only [Act.put, List.getElem_toArray, List.getElem_cons_succ, List.getElem_cons_zero, List.setIfInBounds_toArray, List.set_cons_zero, List.set_cons_succ]
      refine wpAnyL_take (i := 4) (v := undef) rfl (by kernel_rfl) (by kernel_rfl) (by kernel_rfl) (by kernel_rfl) (by kernel_rfl) (fun _ _ _ h => h) (Or.inr ⟨by kernel_rfl, rfl⟩) s126 ?_
      try simp only [Act.put, List.getElem_toArray, List.getElem_cons_succ, List.getElem_cons_zero, List.setIfInBounds_toArray, List.set_cons_zero, List.set_cons_succ]
      refine wpAnyL_take (i := 6) (v := undef) rfl (by kernel_rfl) (by kernel_rfl) (by kernel_rfl) (by kernel_rfl) (by kernel_rfl) (fun _ _ _ h => h) (Or.inr ⟨by kernel_rfl, rfl⟩) s126 ?_
      try simp only [Act.put, List.getElem_toArray, List.getElem_cons_succ, List.getElem_cons_zero, List.setIfInBounds_toArray, List.set_cons_zero, List.set_cons_succ]
      refine wpAnyL_one (i := 5) (by kernel_rfl) rfl (fun K hK => ?_)
      rw [if_neg (Bool.eq_false_iff.1 (by kernel_rfl))]
      refine hK.out _ _ (fun _ => s126) ?_
      clear hK K
      try simp only [Act.put, List.getElem_toArray, List.getElem_cons_succ, List.getElem_cons_zero, List.setIfInBounds_toArray, List.set_cons_zero, List.set_cons_succ]
      refine wpAnyL_one (i := 7) (by kernel_rfl) rfl (fun K hK => ?_)
      rw [if_neg (Bool.eq_false_iff.1 (by kernel_rfl))]
      refine hK.out _ _ (fun _ => s126) ?_
      clear hK K
      try simp only [Act.put, List.getElem_toArray, List.getElem_cons_succ, List.getElem_cons_zero, List.setIfInBounds_toArray, List.set_cons_zero, List.set_cons_succ]
      refine wpAnyL_one (i := 8) (by kernel_rfl) rfl (fun K hK => ?_)
      rw [if_neg (Bool.eq_false_iff.1 (by kernel_rfl))]
      refine hK.out _ _ (fun _ => s126) ?_
      clear hK K
      try simp only [Act.put, List.getElem_toArray, List.getElem_cons_succ, List.getElem_cons_zero, List.setIfInBounds_toArray, List.set_cons_zero, List.set_cons_succ]
      refine wpAnyL_take (i := 9) (v := ?_) rfl (by kernel_rfl) (by kernel_rfl) (by kernel_rfl) (by kernel_rfl) (by kernel_rfl) (fun _ _ _ h => h) (Or.inl ⟨by kernel_rfl, ?_⟩) s126 ?_
      rotate_left
      · rintro w' ⟨h1, h2, h3, h4, h5, h6, h7, h8, h9, h10, h11, h12⟩; go_simp; (try with_reducible rfl)
      try simp only [Act.put, List.getElem_toArray, List.getElem_cons_succ, List.getElem_cons_zero, List.setIfInBounds_toArray, List.set_cons_zero, List.set_cons_succ]
      refine wpAnyL_one (i := 10) (by kernel_rfl) rfl (fun K hK => ?_)
      go_simp
      refine hK.out _ _ (fun _ => s126) ?_
      clear hK K
      try simp only [Act.put, List.getElem_toArray, List.getElem_cons_succ, List.getElem_cons_zero, List.setIfInBounds_toArray, List.set_cons_zero, List.set_cons_succ]
      refine wpAnyL_done (by kernel_rfl) ?_ _
      go_wp2_with fail
      go_ret
      exact ⟨rfl, D126.bel⟩
    · have H0 := Lib.hid h0
      clear h0
      obtain rfl : true = ok := (decide_eq_true H0.out).symm.trans Hok.out
      go_wp2_with fail
      have D126 := R125.drew
      have s126 := And.intro (D126.cell 4 0 rfl rfl) (And.intro (D126.cell 4 1 rfl rfl) (And.intro (D126.cell 4 2 rfl rfl) (And.intro (D126.cell 4 3 rfl rfl) (And.intro (D126.cell 3 0 rfl rfl) (And.intro (D126.cell 3 1 rfl rfl) (And.intro (D126.cell 3 2 rfl rfl) (And.intro (D126.cell 3 3 rfl rfl) (And.intro (D126.cell 0 0 rfl rfl) (And.intro (D126.cell 0 1 rfl rfl) (And.intro (D126.cell 0 2 rfl rfl) (D126.cell 0 3 rfl rfl)))))))))))
      refine wp_region_late [] (fun w' => w'.cell? ⟨w.heap.size, 0, none⟩ = some (.bool ba) ∧ w'.cell? ⟨w.heap.size, 1, none⟩ = some (.slice Aa na ca) ∧ w'.cell? ⟨w.heap.size, 2, none⟩ = some (.bool ba') ∧ w'.cell? ⟨w.heap.size, 3, none⟩ = some (.slice Aa' na' ca') ∧ w'.cell? ⟨w.heap.size + 1, 0, none⟩ = some (.bool bb) ∧ w'.cell? ⟨w.heap.size + 1, 1, none⟩ = some (.slice Ab nb cb) ∧ w'.cell? ⟨w.heap.size + 1, 2, none⟩ = some (.bool bb') ∧ w'.cell? ⟨w.heap.size + 1, 3, none⟩ = some (.slice Ab' nb' cb') ∧ w'.cell? ⟨w118.heap.size, 0, none⟩ = some (.bool b_qn) ∧ w'.cell? ⟨w118.heap.size, 1, none⟩ = some (.slice A_qn n_qn n_qn) ∧ w'.cell? ⟨w118.heap.size, 2, none⟩ = some (.bool b_qd) ∧ w'.cell? ⟨w118.heap.size, 3, none⟩ = some (.slice A_qd n_qd n_qd)) (by kernel_rfl) ?_
      refine wpAnyL_take (i := 0) (v := ?_) rfl (by kernel_rfl) (by kernel_rfl) (by kernel_rfl) (by kernel_rfl) (by kernel_rfl) (fun _ _ _ h => h) (Or.inl ⟨by kernel_rfl, ?_⟩) s126 ?_
      rotate_left
      · rintro w' ⟨h1, h2, h3, h4, h5, h6, h7, h8, h9, h10, h11, h12⟩; go_simp; (try with_reducible rfl)
      try simp only [Act.put, List.getElem_toArray, List.getElem_cons_succ, List.getElem_cons_zero, List.setIfInBounds_toArray, List.set_cons_zero, List.set_cons_succ]
      refine wpAnyL_take (i := 1) (v := ?_) rfl (by kernel_rfl) (by kernel_rfl) (by kernel_rfl) (by kernel_rfl) (by kernel_rfl) (fun _ _ _ h => h) (Or.inl ⟨by kernel_rfl, ?_⟩) s126 ?_
      rotate_left
      · rintro w' ⟨h1, h2, h3, h4, h5, h6, h7, h8, h9, h10, h11, h12⟩; go_simp; (try with_reducible rfl)
      try simp only [Act.put, List.getElem_toArray, List.getElem_cons_succ, List.getElem_cons_zero, List.setIfInBounds_toArray, List.set_cons_zero, List.set_cons_succ]
      refine wpAnyL_take (i := 2) (v := ?_) rfl (by kernel_rfl) (by kernel_rfl) (by kernel_rfl) (by kernel_rfl) (by kernel_rfl) (fun _ _ _ h => h) (Or.inl ⟨by kernel_rfl, ?_⟩) s126 ?_
      rotate_left
      · rintro w' ⟨h1, h2, h3, h4, h5, h6, h7, h8, h9, h10, h11, h12⟩; go_simp; (try with_reducible rfl)
      try simp only [Act.put, List.getElem_toArray, List.getElem_cons_succ, List.getElem_cons_zero, List.setIfInBounds_toArray, List.set_cons_zero, List.set_cons_succ]
      refine wpAnyL_take (i := 3) (v := ?_) rfl (by kernel_rfl) (by kernel_rfl) (by kernel_rfl) (by kernel_rfl) (by kernel_rfl) (fun _ _ _ h => h) (Or.inl ⟨by kernel_rfl, ?_⟩) s126 ?_
      rotate_left
      · rintro w' ⟨h1, h2, h3, h4, h5, h6, h7, h8, h9, h10, h11, h12⟩; go_simp; (try with_reducible rfl)
      try simp only [Act.put, List.getElem_toArray, List.getElem_cons_succ, List.getElem_cons_zero, List.setIfInBounds_toArray, List.set_cons_zero, List.set_cons_succ]
      refine wpAnyL_take (i := 4) (v := ?_) rfl (by kernel_rfl) (by kernel_rfl) (by kernel_rfl) (by kernel_rfl) (by kernel_rfl) (fun _ _ _ h => h) (Or.inl ⟨by kernel_rfl, ?_⟩) s126 ?_
      rotate_left
      · rintro w' ⟨h1, h2, h3, h4, h5, h6, h7, h8, h9, h10, h11, h12⟩; go_simp; (try with_reducible rfl)
      try simp only [Act.put, List.getElem_toArray, List.getElem_cons_succ, List.getElem_cons_zero, List.setIfInBounds_toArray, List.set_cons_zero, List.set_cons_succ]
      refine wpAnyL_take (i := 6) (v := ?_) rfl (by kernel_rfl) (by kernel_rfl) (by kernel_rfl) (by kernel_rfl) (by kernel_rfl) (fun _ _ _ h => h) (Or.inl ⟨by kernel_rfl, ?_⟩) s126 ?_
      rotate_left
      · rintro w' ⟨h1, h2, h3, h4, h5, h6, h7, h8, h9, h10, h11, h12⟩; go_simp; (try with_reducible rfl)
      try simp only [Act.put, List.getElem_toArray, List.getElem_cons_succ, List.getElem_cons_zero, List.setIfInBounds_toArray, List.set_cons_zero, List.set_cons_succ]
      refine wpAnyL_one (i := 5) (by kernel_rfl) rfl (fun K hK => ?_)
      go_simp
      refine (qmul (k := 8) (D126.z 7 rfl) (D126.z 6 rfl) (D126.z 15 rfl) (D126.z 14 rfl) (by decide) (by decide) (by decide) (by decide) (by decide) (by decide) (qv_self (v)) Hb.out).mono ?_; rintro e w127 ⟨b_pn, A_pn, n_pn, b_pd, A_pd, n_pd, rfl, z_pn, z_pd, hb127⟩
      have R127 := (((D126.below hb127).add z_pn).add z_pd)
      have s127 := And.intro (R127.cell 4 0 rfl rfl) (And.intro (R127.cell 4 1 rfl rfl) (And.intro (R127.cell 4 2 rfl rfl) (And.intro (R127.cell 4 3 rfl rfl) (And.intro (R127.cell 3 0 rfl rfl) (And.intro (R127.cell 3 1 rfl rfl) (And.intro (R127.cell 3 2 rfl rfl) (And.intro (R127.cell 3 3 rfl rfl) (And.intro (R127.cell 0 0 rfl rfl) (And.intro (R127.cell 0 1 rfl rfl) (And.intro (R127.cell 0 2 rfl rfl) (R127.cell 0 3 rfl rfl)))))))))))
      clear z_pn z_pd hb127 D126 s126
      go_wp2_with fail
      refine hK.out _ _ (fun _ => s127) ?_
      clear hK K
      try simp only [Act.put, List.getElem_toArray, List.getElem_cons_succ, List.getElem_cons_zero, List.setIfInBounds_toArray, List.set_cons_zero, List.set_cons_succ]
      refine wpAnyL_one (i := 7) (by kernel_rfl) rfl (fun K hK => ?_)
      go_simp
      refine (rqplain (K := 4) (R127.z 19 rfl) (R127.z 18 rfl) (by decide) (by decide) (by decide) (by decide) Ha.out).mono ?_; rintro e w128 ⟨b_pbn, A_pbn, n_pbn, c_pbn, b_pbd, A_pbd, n_pbd, c_pbd, rfl, z_pbn, z_pbd, hb128⟩
      have R128 := (((R127.below hb128).add z_pbn).add z_pbd)
      have s128 := And.intro (R128.cell 4 0 rfl rfl) (And.intro (R128.cell 4 1 rfl rfl) (And.intro (R128.cell 4 2 rfl rfl) (And.intro (R128.cell 4 3 rfl rfl) (And.intro (R128.cell 3 0 rfl rfl) (And.intro (R128.cell 3 1 rfl rfl) (And.intro (R128.cell 3 2 rfl rfl) (And.intro (R128.cell 3 3 rfl rfl) (And.intro (R128.cell 0 0 rfl rfl) (And.intro (R128.cell 0 1 rfl rfl) (And.intro (R128.cell 0 2 rfl rfl) (R128.cell 0 3 rfl rfl)))))))))))
      clear z_pbn z_pbd hb128 R127 s127
      go_wp2_with fail
      refine hK.out _ _ (fun _ => s128) ?_
      clear hK K
      try simp only [Act.put, List.getElem_toArray, List.getElem_cons_succ, List.getElem_cons_zero, List.setIfInBounds_toArray, List.set_cons_zero, List.set_cons_succ]
      refine wpAnyL_one (i := 8) (by kernel_rfl) rfl (fun K hK => ?_)
      go_simp
      refine (rqsame (R128.z 3 rfl) (R128.z 2 rfl) (R128.z 1 rfl) (R128.z 0 rfl) (by decide) (by decide) (by decide) (by decide) (qsame_eq (by rw [← Hv.out, if_neg H0.out, Rat.div_mul_cancel H0.out]))).mono ?_; rintro e w129 ⟨rfl, hb129⟩
      have R129 := (R128.below hb129)
      have s129 := And.intro (R129.cell 4 0 rfl rfl) (And.intro (R129.cell 4 1 rfl rfl) (And.intro (R129.cell 4 2 rfl rfl) (And.intro (R129.cell 4 3 rfl rfl) (And.intro (R129.cell 3 0 rfl rfl) (And.intro (R129.cell 3 1 rfl rfl) (And.intro (R129.cell 3 2 rfl rfl) (And.intro (R129.cell 3 3 rfl rfl) (And.intro (R129.cell 0 0 rfl rfl) (And.intro (R129.cell 0 1 rfl rfl) (And.intro (R129.cell 0 2 rfl rfl) (R129.cell 0 3 rfl rfl)))))))))))
      clear hb129 R128 s128
      go_wp2_with fail
      refine hK.out _ _ (fun _ => s129) ?_
      clear hK K
      try simp only [Act.put, List.getElem_toArray, List.getElem_cons_succ, List.getElem_cons_zero, List.setIfInBounds_toArray, List.set_cons_zero, List.set_cons_succ]
      refine wpAnyL_take (i := 9) (v := ?_) rfl (by kernel_rfl) (by kernel_rfl) (by kernel_rfl) (by kernel_rfl) (by kernel_rfl) (fun _ _ _ h => h) (Or.inl ⟨by kernel_rfl, ?_⟩) s129 ?_
      rotate_left
      · rintro w' ⟨h1, h2, h3, h4, h5, h6, h7, h8, h9, h10, h11, h12⟩; go_simp; (try with_reducible rfl)
      try simp only [Act.put, List.getElem_toArray, List.getElem_cons_succ, List.getElem_cons_zero, List.setIfInBounds_toArray, List.set_cons_zero, List.set_cons_succ]
      refine wpAnyL_one (i := 10) (by kernel_rfl) rfl (fun K hK => ?_)
      go_simp
      refine hK.out _ _ (fun _ => s129) ?_
      clear hK K
      try simp only [Act.put, List.getElem_toArray, List.getElem_cons_succ, List.getElem_cons_zero, List.setIfInBounds_toArray, List.set_cons_zero, List.set_cons_succ]
      refine wpAnyL_done (by kernel_rfl) ?_ _
      go_wp2_with fail
      go_ret
      exact ⟨rfl, R129.bel⟩
end Go.Proofs.YticjhlbmdjijnaaGreatDoor
