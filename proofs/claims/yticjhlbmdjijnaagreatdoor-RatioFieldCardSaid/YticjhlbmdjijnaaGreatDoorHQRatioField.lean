/- The law RatioField, walked. No condition but the reach of a slice. No condition but the reach of a slice. -/
import Derived.Test.YticjhlbmdjijnaaGreatDoorHQAwake
import Derived.Test.YticjhlbmdjijnaaGreatDoorHQFew
import Derived.Test.YticjhlbmdjijnaaGreatDoorHQT
import Derived.Test.YticjhlbmdjijnaaGreatDoorHQU
namespace Go.Proofs.YticjhlbmdjijnaaGreatDoor
set_option linter.unusedSimpArgs false
set_option linter.unusedVariables false
open Go.RowKit

theorem qone_of : Rat.divInt 1 1 = (1 : Rat) := by decide +kernel
set_option maxRecDepth 100000 in
set_option maxHeartbeats 25600000 in
theorem ratioField_any (ba : Bool) (Aa : Option Addr) (na ca : Nat) (la : List Nat) (ba' : Bool) (Aa' : Option Addr) (na' ca' : Nat) (la' : List Nat) (bb : Bool) (Ab : Option Addr) (nb cb : Nat) (lb : List Nat) (bb' : Bool) (Ab' : Option Addr) (nb' cb' : Nat) (lb' : List Nat) (bc : Bool) (Ac : Option Addr) (nc cc : Nat) (lc : List Nat) (bc' : Bool) (Ac' : Option Addr) (nc' cc' : Nat) (lc' : List Nat) (w : World) (hra : Lim w Aa na ca la) (hna : na ≤ maxLen) (hra' : Lim w Aa' na' ca' la') (hna' : na' ≤ maxLen) (hrb : Lim w Ab nb cb lb) (hnb : nb ≤ maxLen) (hrb' : Lim w Ab' nb' cb' lb') (hnb' : nb' ≤ maxLen) (hrc : Lim w Ac nc cc lc) (hnc : nc ≤ maxLen) (hrc' : Lim w Ac' nc' cc' lc') (hnc' : nc' ≤ maxLen) : Calls Tryz.prog 8 #[.agg #[.bool ba, .slice Aa na ca, .bool ba', .slice Aa' na' ca'], .agg #[.bool bb, .slice Ab nb cb, .bool bb', .slice Ab' nb' cb'], .agg #[.bool bc, .slice Ac nc cc, .bool bc', .slice Ac' nc' cc']] w fun e w' => e = .returned (.bool true) ∧ Below w.heap.size w w' := by
  by_cases hfa : ¬ (na ≤ 4 ∧ na' ≤ 4)
  · have R0 := ((((Env.nil_ w).alloc 26 #[.bool ba, .slice Aa na ca, .bool ba', .slice Aa' na' ca'] (g := w.heap.size) rfl rfl).alloc 26 #[.bool bb, .slice Ab nb cb, .bool bb', .slice Ab' nb' cb'] (g := w.heap.size + 1) (by simp) rfl).alloc 26 #[.bool bc, .slice Ac nc cc, .bool bc', .slice Ac' nc' cc'] (g := w.heap.size + 1 + 1) (by simp) rfl)
    have HF := Lib.hid hfa
    clear hfa
    go_enter Tryz.func8, Tryz.ntmps8
    go_wp2_with fail
    refine (qawake_any _).mono ?_; rintro e w1 ⟨rfl, hb1⟩
    have R1 := (R0.below hb1)
    clear hb1 R0
    have k2a0 := R1.cell 2 0 rfl rfl
    have k2a1 := R1.cell 2 1 rfl rfl
    have k2a2 := R1.cell 2 2 rfl rfl
    have k2a3 := R1.cell 2 3 rfl rfl
    go_wp2_with fail
    clear k2a0 k2a1 k2a2 k2a3
    refine (qfew _ _ _ _ _ _ _ _ _).mono ?_; rintro e w2 ⟨rfl, hb2⟩
    have R2 := (R1.below hb2)
    clear hb2 R1
    rw [decide_eq_false HF.out]
    go_wp2_with fail
    go_ret
    exact ⟨rfl, R2.bel⟩
  have hfa := Lib.hid (Classical.not_not.1 hfa)
  by_cases hfb : ¬ (nb ≤ 4 ∧ nb' ≤ 4)
  · have R0 := ((((Env.nil_ w).alloc 26 #[.bool ba, .slice Aa na ca, .bool ba', .slice Aa' na' ca'] (g := w.heap.size) rfl rfl).alloc 26 #[.bool bb, .slice Ab nb cb, .bool bb', .slice Ab' nb' cb'] (g := w.heap.size + 1) (by simp) rfl).alloc 26 #[.bool bc, .slice Ac nc cc, .bool bc', .slice Ac' nc' cc'] (g := w.heap.size + 1 + 1) (by simp) rfl)
    have HF := Lib.hid hfb
    clear hfb
    go_enter Tryz.func8, Tryz.ntmps8
    go_wp2_with fail
    refine (qawake_any _).mono ?_; rintro e w1 ⟨rfl, hb1⟩
    have R1 := (R0.below hb1)
    clear hb1 R0
    have k2a0 := R1.cell 2 0 rfl rfl
    have k2a1 := R1.cell 2 1 rfl rfl
    have k2a2 := R1.cell 2 2 rfl rfl
    have k2a3 := R1.cell 2 3 rfl rfl
    go_wp2_with fail
    clear k2a0 k2a1 k2a2 k2a3
    refine (qfew _ _ _ _ _ _ _ _ _).mono ?_; rintro e w2 ⟨rfl, hb2⟩
    have R2 := (R1.below hb2)
    clear hb2 R1
    rw [decide_eq_true hfa.out]
    have k3b0 := R2.cell 1 0 rfl rfl
    have k3b1 := R2.cell 1 1 rfl rfl
    have k3b2 := R2.cell 1 2 rfl rfl
    have k3b3 := R2.cell 1 3 rfl rfl
    go_wp2_with fail
    clear k3b0 k3b1 k3b2 k3b3
    refine (qfew _ _ _ _ _ _ _ _ _).mono ?_; rintro e w3 ⟨rfl, hb3⟩
    have R3 := (R2.below hb3)
    clear hb3 R2
    rw [decide_eq_false HF.out]
    go_wp2_with fail
    go_ret
    exact ⟨rfl, R3.bel⟩
  have hfb := Lib.hid (Classical.not_not.1 hfb)
  by_cases hfc : ¬ (nc ≤ 4 ∧ nc' ≤ 4)
  · have R0 := ((((Env.nil_ w).alloc 26 #[.bool ba, .slice Aa na ca, .bool ba', .slice Aa' na' ca'] (g := w.heap.size) rfl rfl).alloc 26 #[.bool bb, .slice Ab nb cb, .bool bb', .slice Ab' nb' cb'] (g := w.heap.size + 1) (by simp) rfl).alloc 26 #[.bool bc, .slice Ac nc cc, .bool bc', .slice Ac' nc' cc'] (g := w.heap.size + 1 + 1) (by simp) rfl)
    have HF := Lib.hid hfc
    clear hfc
    go_enter Tryz.func8, Tryz.ntmps8
    go_wp2_with fail
    refine (qawake_any _).mono ?_; rintro e w1 ⟨rfl, hb1⟩
    have R1 := (R0.below hb1)
    clear hb1 R0
    have k2a0 := R1.cell 2 0 rfl rfl
    have k2a1 := R1.cell 2 1 rfl rfl
    have k2a2 := R1.cell 2 2 rfl rfl
    have k2a3 := R1.cell 2 3 rfl rfl
    go_wp2_with fail
    clear k2a0 k2a1 k2a2 k2a3
    refine (qfew _ _ _ _ _ _ _ _ _).mono ?_; rintro e w2 ⟨rfl, hb2⟩
    have R2 := (R1.below hb2)
    clear hb2 R1
    rw [decide_eq_true hfa.out]
    have k3b0 := R2.cell 1 0 rfl rfl
    have k3b1 := R2.cell 1 1 rfl rfl
    have k3b2 := R2.cell 1 2 rfl rfl
    have k3b3 := R2.cell 1 3 rfl rfl
    go_wp2_with fail
    clear k3b0 k3b1 k3b2 k3b3
    refine (qfew _ _ _ _ _ _ _ _ _).mono ?_; rintro e w3 ⟨rfl, hb3⟩
    have R3 := (R2.below hb3)
    clear hb3 R2
    rw [decide_eq_true hfb.out]
    have k4c0 := R3.cell 0 0 rfl rfl
    have k4c1 := R3.cell 0 1 rfl rfl
    have k4c2 := R3.cell 0 2 rfl rfl
    have k4c3 := R3.cell 0 3 rfl rfl
    go_wp2_with fail
    clear k4c0 k4c1 k4c2 k4c3
    refine (qfew _ _ _ _ _ _ _ _ _).mono ?_; rintro e w4 ⟨rfl, hb4⟩
    have R4 := (R3.below hb4)
    clear hb4 R3
    rw [decide_eq_false HF.out]
    go_wp2_with fail
    go_ret
    exact ⟨rfl, R4.bel⟩
  have hfc := Lib.hid (Classical.not_not.1 hfc)
  have zan := ZIs.of_lim (b := ba) (k := 4) hra hfa.out.1
  have zad := ZIs.of_lim (b := ba') (k := 4) hra' hfa.out.2
  generalize zv ba (vl la) = xa at zan
  generalize zv ba' (vl la') = ya at zad
  obtain ⟨ra, hra_⟩ : ∃ r, qv xa ya = r := ⟨_, rfl⟩
  have Ha := Lib.hid hra_
  clear hra_ hra hra' hna hna'
  have zbn := ZIs.of_lim (b := bb) (k := 4) hrb hfb.out.1
  have zbd := ZIs.of_lim (b := bb') (k := 4) hrb' hfb.out.2
  generalize zv bb (vl lb) = xb at zbn
  generalize zv bb' (vl lb') = yb at zbd
  obtain ⟨rb, hrb_⟩ : ∃ r, qv xb yb = r := ⟨_, rfl⟩
  have Hb := Lib.hid hrb_
  clear hrb_ hrb hrb' hnb hnb'
  have zcn := ZIs.of_lim (b := bc) (k := 4) hrc hfc.out.1
  have zcd := ZIs.of_lim (b := bc') (k := 4) hrc' hfc.out.2
  generalize zv bc (vl lc) = xc at zcn
  generalize zv bc' (vl lc') = yc at zcd
  obtain ⟨rc, hrc_⟩ : ∃ r, qv xc yc = r := ⟨_, rfl⟩
  have Hc := Lib.hid hrc_
  clear hrc_ hrc hrc' hnc hnc'
  have R0 := ((((((((((Env.nil_ w).add zan).add zad).add zbn).add zbd).add zcn).add zcd).alloc 26 #[.bool ba, .slice Aa na ca, .bool ba', .slice Aa' na' ca'] (g := w.heap.size) rfl rfl).alloc 26 #[.bool bb, .slice Ab nb cb, .bool bb', .slice Ab' nb' cb'] (g := w.heap.size + 1) (by simp) rfl).alloc 26 #[.bool bc, .slice Ac nc cc, .bool bc', .slice Ac' nc' cc'] (g := w.heap.size + 1 + 1) (by simp) rfl)
  clear zan zad zbn zbd zcn zcd
  by_cases h0 : ra = 0
  · have H0 := Lib.hid h0
    clear h0
    go_enter Tryz.func8, Tryz.ntmps8
    go_wp2_with fail
    refine (qawake_any _).mono ?_; rintro e w1 ⟨rfl, hb1⟩
    have R1 := (R0.below hb1)
    clear hb1 R0
    have k2a0 := R1.cell 2 0 rfl rfl
    have k2a1 := R1.cell 2 1 rfl rfl
    have k2a2 := R1.cell 2 2 rfl rfl
    have k2a3 := R1.cell 2 3 rfl rfl
    go_wp2_with fail
    clear k2a0 k2a1 k2a2 k2a3
    refine (qfew _ _ _ _ _ _ _ _ _).mono ?_; rintro e w2 ⟨rfl, hb2⟩
    have R2 := (R1.below hb2)
    clear hb2 R1
    rw [decide_eq_true hfa.out]
    have k3b0 := R2.cell 1 0 rfl rfl
    have k3b1 := R2.cell 1 1 rfl rfl
    have k3b2 := R2.cell 1 2 rfl rfl
    have k3b3 := R2.cell 1 3 rfl rfl
    go_wp2_with fail
    clear k3b0 k3b1 k3b2 k3b3
    refine (qfew _ _ _ _ _ _ _ _ _).mono ?_; rintro e w3 ⟨rfl, hb3⟩
    have R3 := (R2.below hb3)
    clear hb3 R2
    rw [decide_eq_true hfb.out]
    have k4c0 := R3.cell 0 0 rfl rfl
    have k4c1 := R3.cell 0 1 rfl rfl
    have k4c2 := R3.cell 0 2 rfl rfl
    have k4c3 := R3.cell 0 3 rfl rfl
    go_wp2_with fail
    clear k4c0 k4c1 k4c2 k4c3
    refine (qfew _ _ _ _ _ _ _ _ _).mono ?_; rintro e w4 ⟨rfl, hb4⟩
    have R4 := (R3.below hb4)
    clear hb4 R3
    rw [decide_eq_true hfc.out]
    go_wp2_with fail
    refine (qof 1 1 ⟨by decide, by decide⟩ ⟨by decide, by decide⟩ _ qone_of (by decide : decide ((1 : Int) ≠ 0) = true)).mono ?_; rintro e w5 ⟨b_onen, A_onen, n_onen, b_oned, A_oned, n_oned, rfl, z_onen, z_oned, hb5⟩
    have R5 := ((((R4.below hb5).add z_onen).add z_oned).alloc 26 #[.bool b_onen, .slice A_onen n_onen n_onen, .bool b_oned, .slice A_oned n_oned n_oned] (g := w5.heap.size) rfl rfl)
    clear z_onen z_oned hb5 R4
    have k6one0 := R5.cell 0 0 rfl rfl
    have k6one1 := R5.cell 0 1 rfl rfl
    have k6one2 := R5.cell 0 2 rfl rfl
    have k6one3 := R5.cell 0 3 rfl rfl
    have k6a0 := R5.cell 3 0 rfl rfl
    have k6a1 := R5.cell 3 1 rfl rfl
    have k6a2 := R5.cell 3 2 rfl rfl
    have k6a3 := R5.cell 3 3 rfl rfl
    go_wp2_with fail
    clear k6one0 k6one1 k6one2 k6one3 k6a0 k6a1 k6a2 k6a3
    refine (qdiv_zero (k := 4) (R5.z 1 rfl) (R5.z 0 rfl) (R5.z 7 rfl) (R5.z 6 rfl) (by decide) (by decide) (by decide) (by decide) (by decide) (by decide) (qv_self (1)) Ha.out H0.out).mono ?_; rintro e w6 ⟨b_invn, A_invn, n_invn, b_invd, A_invd, n_invd, rfl, z_invn, z_invd, hb6⟩
    have R6 := ((((R5.below hb6).add z_invn).add z_invd).alloc 26 #[.bool b_invn, .slice A_invn n_invn n_invn, .bool b_invd, .slice A_invd n_invd n_invd] (g := w6.heap.size) rfl rfl)
    clear z_invn z_invd hb6 R5
    go_wp2_with fail
    have D7 := R6.drew
    have s7 := And.intro (D7.cell 4 0 rfl rfl) (And.intro (D7.cell 4 1 rfl rfl) (And.intro (D7.cell 4 2 rfl rfl) (And.intro (D7.cell 4 3 rfl rfl) (And.intro (D7.cell 1 0 rfl rfl) (And.intro (D7.cell 1 1 rfl rfl) (And.intro (D7.cell 1 2 rfl rfl) (And.intro (D7.cell 1 3 rfl rfl) (And.intro (D7.cell 0 0 rfl rfl) (And.intro (D7.cell 0 1 rfl rfl) (And.intro (D7.cell 0 2 rfl rfl) (D7.cell 0 3 rfl rfl)))))))))))
    refine wp_region_late [] (fun w' => w'.cell? ⟨w.heap.size, 0, none⟩ = some (.bool ba) ∧ w'.cell? ⟨w.heap.size, 1, none⟩ = some (.slice Aa na ca) ∧ w'.cell? ⟨w.heap.size, 2, none⟩ = some (.bool ba') ∧ w'.cell? ⟨w.heap.size, 3, none⟩ = some (.slice Aa' na' ca') ∧ w'.cell? ⟨w5.heap.size, 0, none⟩ = some (.bool b_onen) ∧ w'.cell? ⟨w5.heap.size, 1, none⟩ = some (.slice A_onen n_onen n_onen) ∧ w'.cell? ⟨w5.heap.size, 2, none⟩ = some (.bool b_oned) ∧ w'.cell? ⟨w5.heap.size, 3, none⟩ = some (.slice A_oned n_oned n_oned) ∧ w'.cell? ⟨w6.heap.size, 0, none⟩ = some (.bool b_invn) ∧ w'.cell? ⟨w6.heap.size, 1, none⟩ = some (.slice A_invn n_invn n_invn) ∧ w'.cell? ⟨w6.heap.size, 2, none⟩ = some (.bool b_invd) ∧ w'.cell? ⟨w6.heap.size, 3, none⟩ = some (.slice A_invd n_invd n_invd)) (by kernel_rfl) ?_
    refine wpAnyL_take (i := 0) (v := ?_) rfl (by kernel_rfl) (by kernel_rfl) (by kernel_rfl) (by kernel_rfl) (by kernel_rfl) (fun _ _ _ h => h) (Or.inl ⟨by kernel_rfl, ?_⟩) s7 ?_
    rotate_left
    · rintro w' ⟨h1, h2, h3, h4, h5, h6, h7, h8, h9, h10, h11, h12⟩; go_simp; (try with_reducible rfl)
    try simp only [Act.put, List.getElem_toArray, List.getElem_cons_succ, List.getElem_cons_zero, List.setIfInBounds_toArray, List.set_cons_zero, List.set_cons_succ]
    refine wpAnyL_take (i := 1) (v := ?_) rfl (by kernel_rfl) (by kernel_rfl) (by kernel_rfl) (by kernel_rfl) (by kernel_rfl) (fun _ _ _ h => h) (Or.inl ⟨by kernel_rfl, ?_⟩) s7 ?_
    rotate_left
    · rintro w' ⟨h1, h2, h3, h4, h5, h6, h7, h8, h9, h10, h11, h12⟩; go_simp; (try with_reducible rfl)
    try simp only [Act.put, List.getElem_toArray, List.getElem_cons_succ, List.getElem_cons_zero, List.setIfInBounds_toArray, List.set_cons_zero, List.set_cons_succ]
    refine wpAnyL_take (i := 2) (v := undef) rfl (by kernel_rfl) (by kernel_rfl) (by kernel_rfl) (by kernel_rfl) (by kernel_rfl) (fun _ _ _ h => h) (Or.inr ⟨by kernel_rfl, rfl⟩) s7 ?_
    try simp only [Act.put, List.getElem_toArray, List.getElem_cons_succ, List.getElem_cons_zero, List.setIfInBounds_toArray, List.set_cons_zero, List.set_cons_succ]
    refine wpAnyL_take (i := 3) (v := undef) rfl (by kernel_rfl) (by kernel_rfl) (by kernel_rfl) (by kernel_rfl) (by kernel_rfl) (fun _ _ _ h => h) (Or.inr ⟨by kernel_rfl, rfl⟩) s7 ?_
    try simp only [Act.put, List.getElem_toArray, List.getElem_cons_succ, List.getElem_cons_zero, List.setIfInBounds_toArray, List.set_cons_zero, List.set_cons_succ]
    refine wpAnyL_take (i := 5) (v := undef) rfl (by kernel_rfl) (by kernel_rfl) (by kernel_rfl) (by kernel_rfl) (by kernel_rfl) (fun _ _ _ h => h) (Or.inr ⟨by kernel_rfl, rfl⟩) s7 ?_
    try simp only [Act.put, List.getElem_toArray, List.getElem_cons_succ, List.getElem_cons_zero, List.setIfInBounds_toArray, List.set_cons_zero, List.set_cons_succ]
    refine wpAnyL_one (i := 4) (by kernel_rfl) rfl (fun K hK => ?_)
    rw [if_neg (Bool.eq_false_iff.1 (by kernel_rfl))]
    refine hK.out _ _ (fun _ => s7) ?_
    clear hK K
    try simp only [Act.put, List.getElem_toArray, List.getElem_cons_succ, List.getElem_cons_zero, List.setIfInBounds_toArray, List.set_cons_zero, List.set_cons_succ]
    refine wpAnyL_one (i := 6) (by kernel_rfl) rfl (fun K hK => ?_)
    rw [if_neg (Bool.eq_false_iff.1 (by kernel_rfl))]
    refine hK.out _ _ (fun _ => s7) ?_
    clear hK K
    try simp only [Act.put, List.getElem_toArray, List.getElem_cons_succ, List.getElem_cons_zero, List.setIfInBounds_toArray, List.set_cons_zero, List.set_cons_succ]
    refine wpAnyL_take (i := 7) (v := undef) rfl (by kernel_rfl) (by kernel_rfl) (by kernel_rfl) (by kernel_rfl) (by kernel_rfl) (fun _ _ _ h => h) (Or.inr ⟨by kernel_rfl, rfl⟩) s7 ?_
    try simp only [Act.put, List.getElem_toArray, List.getElem_cons_succ, List.getElem_cons_zero, List.setIfInBounds_toArray, List.set_cons_zero, List.set_cons_succ]
    refine wpAnyL_take (i := 8) (v := ?_) rfl (by kernel_rfl) (by kernel_rfl) (by kernel_rfl) (by kernel_rfl) (by kernel_rfl) (fun _ _ _ h => h) (Or.inl ⟨by kernel_rfl, ?_⟩) s7 ?_
    rotate_left
    · rintro w' ⟨h1, h2, h3, h4, h5, h6, h7, h8, h9, h10, h11, h12⟩; go_simp; (try with_reducible rfl)
    try simp only [Act.put, List.getElem_toArray, List.getElem_cons_succ, List.getElem_cons_zero, List.setIfInBounds_toArray, List.set_cons_zero, List.set_cons_succ]
    refine wpAnyL_done (by kernel_rfl) ?_ _
    go_wp2_with fail
    have D8 := D7.drew
    have s8 := And.intro (D8.cell 4 0 rfl rfl) (And.intro (D8.cell 4 1 rfl rfl) (And.intro (D8.cell 4 2 rfl rfl) (And.intro (D8.cell 4 3 rfl rfl) (And.intro (D8.cell 3 0 rfl rfl) (And.intro (D8.cell 3 1 rfl rfl) (And.intro (D8.cell 3 2 rfl rfl) (And.intro (D8.cell 3 3 rfl rfl) (And.intro (D8.cell 2 0 rfl rfl) (And.intro (D8.cell 2 1 rfl rfl) (And.intro (D8.cell 2 2 rfl rfl) (D8.cell 2 3 rfl rfl)))))))))))
    refine wp_region_late [] (fun w' => w'.cell? ⟨w.heap.size, 0, none⟩ = some (.bool ba) ∧ w'.cell? ⟨w.heap.size, 1, none⟩ = some (.slice Aa na ca) ∧ w'.cell? ⟨w.heap.size, 2, none⟩ = some (.bool ba') ∧ w'.cell? ⟨w.heap.size, 3, none⟩ = some (.slice Aa' na' ca') ∧ w'.cell? ⟨w.heap.size + 1, 0, none⟩ = some (.bool bb) ∧ w'.cell? ⟨w.heap.size + 1, 1, none⟩ = some (.slice Ab nb cb) ∧ w'.cell? ⟨w.heap.size + 1, 2, none⟩ = some (.bool bb') ∧ w'.cell? ⟨w.heap.size + 1, 3, none⟩ = some (.slice Ab' nb' cb') ∧ w'.cell? ⟨w.heap.size + 1 + 1, 0, none⟩ = some (.bool bc) ∧ w'.cell? ⟨w.heap.size + 1 + 1, 1, none⟩ = some (.slice Ac nc cc) ∧ w'.cell? ⟨w.heap.size + 1 + 1, 2, none⟩ = some (.bool bc') ∧ w'.cell? ⟨w.heap.size + 1 + 1, 3, none⟩ = some (.slice Ac' nc' cc')) (by kernel_rfl) ?_
    refine wpAnyL_take (i := 0) (v := ?_) rfl (by kernel_rfl) (by kernel_rfl) (by kernel_rfl) (by kernel_rfl) (by kernel_rfl) (fun _ _ _ h => h) (Or.inl ⟨by kernel_rfl, ?_⟩) s8 ?_
    rotate_left
    · rintro w' ⟨h1, h2, h3, h4, h5, h6, h7, h8, h9, h10, h11, h12⟩; go_simp; (try with_reducible rfl)
    try simp only [Act.put, List.getElem_toArray, List.getElem_cons_succ, List.getElem_cons_zero, List.setIfInBounds_toArray, List.set_cons_zero, List.set_cons_succ]
    refine wpAnyL_take (i := 1) (v := ?_) rfl (by kernel_rfl) (by kernel_rfl) (by kernel_rfl) (by kernel_rfl) (by kernel_rfl) (fun _ _ _ h => h) (Or.inl ⟨by kernel_rfl, ?_⟩) s8 ?_
    rotate_left
    · rintro w' ⟨h1, h2, h3, h4, h5, h6, h7, h8, h9, h10, h11, h12⟩; go_simp; (try with_reducible rfl)
    try simp only [Act.put, List.getElem_toArray, List.getElem_cons_succ, List.getElem_cons_zero, List.setIfInBounds_toArray, List.set_cons_zero, List.set_cons_succ]
    refine wpAnyL_take (i := 3) (v := ?_) rfl (by kernel_rfl) (by kernel_rfl) (by kernel_rfl) (by kernel_rfl) (by kernel_rfl) (fun _ _ _ h => h) (Or.inl ⟨by kernel_rfl, ?_⟩) s8 ?_
    rotate_left
    · rintro w' ⟨h1, h2, h3, h4, h5, h6, h7, h8, h9, h10, h11, h12⟩; go_simp; (try with_reducible rfl)
    try simp only [Act.put, List.getElem_toArray, List.getElem_cons_succ, List.getElem_cons_zero, List.setIfInBounds_toArray, List.set_cons_zero, List.set_cons_succ]
    refine wpAnyL_take (i := 4) (v := ?_) rfl (by kernel_rfl) (by kernel_rfl) (by kernel_rfl) (by kernel_rfl) (by kernel_rfl) (fun _ _ _ h => h) (Or.inl ⟨by kernel_rfl, ?_⟩) s8 ?_
    rotate_left
    · rintro w' ⟨h1, h2, h3, h4, h5, h6, h7, h8, h9, h10, h11, h12⟩; go_simp; (try with_reducible rfl)
    try simp only [Act.put, List.getElem_toArray, List.getElem_cons_succ, List.getElem_cons_zero, List.setIfInBounds_toArray, List.set_cons_zero, List.set_cons_succ]
    refine wpAnyL_one (i := 2) (by kernel_rfl) rfl (fun K hK => ?_)
    go_simp
    refine (qadd (k := 4) (D8.z 9 rfl) (D8.z 8 rfl) (D8.z 7 rfl) (D8.z 6 rfl) (by decide) (by decide) (by decide) (by decide) (by decide) (by decide) Ha.out Hb.out).mono ?_; rintro e w9 ⟨b_s1n, A_s1n, n_s1n, b_s1d, A_s1d, n_s1d, rfl, z_s1n, z_s1d, hb9⟩
    have R9 := (((D8.below hb9).add z_s1n).add z_s1d)
    have s9 := And.intro (R9.cell 4 0 rfl rfl) (And.intro (R9.cell 4 1 rfl rfl) (And.intro (R9.cell 4 2 rfl rfl) (And.intro (R9.cell 4 3 rfl rfl) (And.intro (R9.cell 3 0 rfl rfl) (And.intro (R9.cell 3 1 rfl rfl) (And.intro (R9.cell 3 2 rfl rfl) (And.intro (R9.cell 3 3 rfl rfl) (And.intro (R9.cell 2 0 rfl rfl) (And.intro (R9.cell 2 1 rfl rfl) (And.intro (R9.cell 2 2 rfl rfl) (R9.cell 2 3 rfl rfl)))))))))))
    clear z_s1n z_s1d hb9 D8 s8
    go_wp2_with fail
    refine hK.out _ _ (fun _ => s9) ?_
    clear hK K
    try simp only [Act.put, List.getElem_toArray, List.getElem_cons_succ, List.getElem_cons_zero, List.setIfInBounds_toArray, List.set_cons_zero, List.set_cons_succ]
    refine wpAnyL_one (i := 5) (by kernel_rfl) rfl (fun K hK => ?_)
    go_simp
    refine (qadd (k := 4) (R9.z 9 rfl) (R9.z 8 rfl) (R9.z 11 rfl) (R9.z 10 rfl) (by decide) (by decide) (by decide) (by decide) (by decide) (by decide) Hb.out Ha.out).mono ?_; rintro e w10 ⟨b_s2n, A_s2n, n_s2n, b_s2d, A_s2d, n_s2d, rfl, z_s2n, z_s2d, hb10⟩
    have R10 := (((R9.below hb10).add z_s2n).add z_s2d)
    have s10 := And.intro (R10.cell 4 0 rfl rfl) (And.intro (R10.cell 4 1 rfl rfl) (And.intro (R10.cell 4 2 rfl rfl) (And.intro (R10.cell 4 3 rfl rfl) (And.intro (R10.cell 3 0 rfl rfl) (And.intro (R10.cell 3 1 rfl rfl) (And.intro (R10.cell 3 2 rfl rfl) (And.intro (R10.cell 3 3 rfl rfl) (And.intro (R10.cell 2 0 rfl rfl) (And.intro (R10.cell 2 1 rfl rfl) (And.intro (R10.cell 2 2 rfl rfl) (R10.cell 2 3 rfl rfl)))))))))))
    clear z_s2n z_s2d hb10 R9 s9
    go_wp2_with fail
    refine hK.out _ _ (fun _ => s10) ?_
    clear hK K
    try simp only [Act.put, List.getElem_toArray, List.getElem_cons_succ, List.getElem_cons_zero, List.setIfInBounds_toArray, List.set_cons_zero, List.set_cons_succ]
    refine wpAnyL_one (i := 6) (by kernel_rfl) rfl (fun K hK => ?_)
    go_simp
    refine (rqsame (R10.z 3 rfl) (R10.z 2 rfl) (R10.z 1 rfl) (R10.z 0 rfl) (by decide) (by decide) (by decide) (by decide) (qsame_eq (Rat.add_comm ra rb))).mono ?_; rintro e w11 ⟨rfl, hb11⟩
    have R11 := (R10.below hb11)
    have s11 := And.intro (R11.cell 4 0 rfl rfl) (And.intro (R11.cell 4 1 rfl rfl) (And.intro (R11.cell 4 2 rfl rfl) (And.intro (R11.cell 4 3 rfl rfl) (And.intro (R11.cell 3 0 rfl rfl) (And.intro (R11.cell 3 1 rfl rfl) (And.intro (R11.cell 3 2 rfl rfl) (And.intro (R11.cell 3 3 rfl rfl) (And.intro (R11.cell 2 0 rfl rfl) (And.intro (R11.cell 2 1 rfl rfl) (And.intro (R11.cell 2 2 rfl rfl) (R11.cell 2 3 rfl rfl)))))))))))
    clear hb11 R10 s10
    go_wp2_with fail
    refine hK.out _ _ (fun _ => s11) ?_
    clear hK K
    try simp only [Act.put, List.getElem_toArray, List.getElem_cons_succ, List.getElem_cons_zero, List.setIfInBounds_toArray, List.set_cons_zero, List.set_cons_succ]
    refine wpAnyL_take (i := 7) (v := ?_) rfl (by kernel_rfl) (by kernel_rfl) (by kernel_rfl) (by kernel_rfl) (by kernel_rfl) (fun _ _ _ h => h) (Or.inl ⟨by kernel_rfl, ?_⟩) s11 ?_
    rotate_left
    · rintro w' ⟨h1, h2, h3, h4, h5, h6, h7, h8, h9, h10, h11, h12⟩; go_simp; (try with_reducible rfl)
    try simp only [Act.put, List.getElem_toArray, List.getElem_cons_succ, List.getElem_cons_zero, List.setIfInBounds_toArray, List.set_cons_zero, List.set_cons_succ]
    refine wpAnyL_take (i := 8) (v := ?_) rfl (by kernel_rfl) (by kernel_rfl) (by kernel_rfl) (by kernel_rfl) (by kernel_rfl) (fun _ _ _ h => h) (Or.inl ⟨by kernel_rfl, ?_⟩) s11 ?_
    rotate_left
    · rintro w' ⟨h1, h2, h3, h4, h5, h6, h7, h8, h9, h10, h11, h12⟩; go_simp; (try with_reducible rfl)
    try simp only [Act.put, List.getElem_toArray, List.getElem_cons_succ, List.getElem_cons_zero, List.setIfInBounds_toArray, List.set_cons_zero, List.set_cons_succ]
    refine wpAnyL_take (i := 9) (v := ?_) rfl (by kernel_rfl) (by kernel_rfl) (by kernel_rfl) (by kernel_rfl) (by kernel_rfl) (fun _ _ _ h => h) (Or.inl ⟨by kernel_rfl, ?_⟩) s11 ?_
    rotate_left
    · rintro w' ⟨h1, h2, h3, h4, h5, h6, h7, h8, h9, h10, h11, h12⟩; go_simp; (try with_reducible rfl)
    try simp only [Act.put, List.getElem_toArray, List.getElem_cons_succ, List.getElem_cons_zero, List.setIfInBounds_toArray, List.set_cons_zero, List.set_cons_succ]
    refine wpAnyL_take (i := 11) (v := ?_) rfl (by kernel_rfl) (by kernel_rfl) (by kernel_rfl) (by kernel_rfl) (by kernel_rfl) (fun _ _ _ h => h) (Or.inl ⟨by kernel_rfl, ?_⟩) s11 ?_
    rotate_left
    · rintro w' ⟨h1, h2, h3, h4, h5, h6, h7, h8, h9, h10, h11, h12⟩; go_simp; (try with_reducible rfl)
    try simp only [Act.put, List.getElem_toArray, List.getElem_cons_succ, List.getElem_cons_zero, List.setIfInBounds_toArray, List.set_cons_zero, List.set_cons_succ]
    refine wpAnyL_take (i := 12) (v := ?_) rfl (by kernel_rfl) (by kernel_rfl) (by kernel_rfl) (by kernel_rfl) (by kernel_rfl) (fun _ _ _ h => h) (Or.inl ⟨by kernel_rfl, ?_⟩) s11 ?_
    rotate_left
    · rintro w' ⟨h1, h2, h3, h4, h5, h6, h7, h8, h9, h10, h11, h12⟩; go_simp; (try with_reducible rfl)
    try simp only [Act.put, List.getElem_toArray, List.getElem_cons_succ, List.getElem_cons_zero, List.setIfInBounds_toArray, List.set_cons_zero, List.set_cons_succ]
    refine wpAnyL_one (i := 10) (by kernel_rfl) rfl (fun K hK => ?_)
    go_simp
    refine (qmul (k := 4) (R11.z 13 rfl) (R11.z 12 rfl) (R11.z 11 rfl) (R11.z 10 rfl) (by decide) (by decide) (by decide) (by decide) (by decide) (by decide) Ha.out Hb.out).mono ?_; rintro e w12 ⟨b_m1n, A_m1n, n_m1n, b_m1d, A_m1d, n_m1d, rfl, z_m1n, z_m1d, hb12⟩
    have R12 := (((R11.below hb12).add z_m1n).add z_m1d)
    have s12 := And.intro (R12.cell 4 0 rfl rfl) (And.intro (R12.cell 4 1 rfl rfl) (And.intro (R12.cell 4 2 rfl rfl) (And.intro (R12.cell 4 3 rfl rfl) (And.intro (R12.cell 3 0 rfl rfl) (And.intro (R12.cell 3 1 rfl rfl) (And.intro (R12.cell 3 2 rfl rfl) (And.intro (R12.cell 3 3 rfl rfl) (And.intro (R12.cell 2 0 rfl rfl) (And.intro (R12.cell 2 1 rfl rfl) (And.intro (R12.cell 2 2 rfl rfl) (R12.cell 2 3 rfl rfl)))))))))))
    clear z_m1n z_m1d hb12 R11 s11
    go_wp2_with fail
    refine hK.out _ _ (fun _ => s12) ?_
    clear hK K
    try simp only [Act.put, List.getElem_toArray, List.getElem_cons_succ, List.getElem_cons_zero, List.setIfInBounds_toArray, List.set_cons_zero, List.set_cons_succ]
    refine wpAnyL_one (i := 13) (by kernel_rfl) rfl (fun K hK => ?_)
    go_simp
    refine (qmul (k := 4) (R12.z 13 rfl) (R12.z 12 rfl) (R12.z 15 rfl) (R12.z 14 rfl) (by decide) (by decide) (by decide) (by decide) (by decide) (by decide) Hb.out Ha.out).mono ?_; rintro e w13 ⟨b_m2n, A_m2n, n_m2n, b_m2d, A_m2d, n_m2d, rfl, z_m2n, z_m2d, hb13⟩
    have R13 := (((R12.below hb13).add z_m2n).add z_m2d)
    have s13 := And.intro (R13.cell 4 0 rfl rfl) (And.intro (R13.cell 4 1 rfl rfl) (And.intro (R13.cell 4 2 rfl rfl) (And.intro (R13.cell 4 3 rfl rfl) (And.intro (R13.cell 3 0 rfl rfl) (And.intro (R13.cell 3 1 rfl rfl) (And.intro (R13.cell 3 2 rfl rfl) (And.intro (R13.cell 3 3 rfl rfl) (And.intro (R13.cell 2 0 rfl rfl) (And.intro (R13.cell 2 1 rfl rfl) (And.intro (R13.cell 2 2 rfl rfl) (R13.cell 2 3 rfl rfl)))))))))))
    clear z_m2n z_m2d hb13 R12 s12
    go_wp2_with fail
    refine hK.out _ _ (fun _ => s13) ?_
    clear hK K
    try simp only [Act.put, List.getElem_toArray, List.getElem_cons_succ, List.getElem_cons_zero, List.setIfInBounds_toArray, List.set_cons_zero, List.set_cons_succ]
    refine wpAnyL_one (i := 14) (by kernel_rfl) rfl (fun K hK => ?_)
    go_simp
    refine (rqsame (R13.z 3 rfl) (R13.z 2 rfl) (R13.z 1 rfl) (R13.z 0 rfl) (by decide) (by decide) (by decide) (by decide) (qsame_eq (Rat.mul_comm ra rb))).mono ?_; rintro e w14 ⟨rfl, hb14⟩
    have R14 := (R13.below hb14)
    have s14 := And.intro (R14.cell 4 0 rfl rfl) (And.intro (R14.cell 4 1 rfl rfl) (And.intro (R14.cell 4 2 rfl rfl) (And.intro (R14.cell 4 3 rfl rfl) (And.intro (R14.cell 3 0 rfl rfl) (And.intro (R14.cell 3 1 rfl rfl) (And.intro (R14.cell 3 2 rfl rfl) (And.intro (R14.cell 3 3 rfl rfl) (And.intro (R14.cell 2 0 rfl rfl) (And.intro (R14.cell 2 1 rfl rfl) (And.intro (R14.cell 2 2 rfl rfl) (R14.cell 2 3 rfl rfl)))))))))))
    clear hb14 R13 s13
    go_wp2_with fail
    refine hK.out _ _ (fun _ => s14) ?_
    clear hK K
    try simp only [Act.put, List.getElem_toArray, List.getElem_cons_succ, List.getElem_cons_zero, List.setIfInBounds_toArray, List.set_cons_zero, List.set_cons_succ]
    refine wpAnyL_take (i := 15) (v := ?_) rfl (by kernel_rfl) (by kernel_rfl) (by kernel_rfl) (by kernel_rfl) (by kernel_rfl) (fun _ _ _ h => h) (Or.inl ⟨by kernel_rfl, ?_⟩) s14 ?_
    rotate_left
    · rintro w' ⟨h1, h2, h3, h4, h5, h6, h7, h8, h9, h10, h11, h12⟩; go_simp; (try with_reducible rfl)
    try simp only [Act.put, List.getElem_toArray, List.getElem_cons_succ, List.getElem_cons_zero, List.setIfInBounds_toArray, List.set_cons_zero, List.set_cons_succ]
    refine wpAnyL_take (i := 16) (v := ?_) rfl (by kernel_rfl) (by kernel_rfl) (by kernel_rfl) (by kernel_rfl) (by kernel_rfl) (fun _ _ _ h => h) (Or.inl ⟨by kernel_rfl, ?_⟩) s14 ?_
    rotate_left
    · rintro w' ⟨h1, h2, h3, h4, h5, h6, h7, h8, h9, h10, h11, h12⟩; go_simp; (try with_reducible rfl)
    try simp only [Act.put, List.getElem_toArray, List.getElem_cons_succ, List.getElem_cons_zero, List.setIfInBounds_toArray, List.set_cons_zero, List.set_cons_succ]
    refine wpAnyL_take (i := 17) (v := ?_) rfl (by kernel_rfl) (by kernel_rfl) (by kernel_rfl) (by kernel_rfl) (by kernel_rfl) (fun _ _ _ h => h) (Or.inl ⟨by kernel_rfl, ?_⟩) s14 ?_
    rotate_left
    · rintro w' ⟨h1, h2, h3, h4, h5, h6, h7, h8, h9, h10, h11, h12⟩; go_simp; (try with_reducible rfl)
    try simp only [Act.put, List.getElem_toArray, List.getElem_cons_succ, List.getElem_cons_zero, List.setIfInBounds_toArray, List.set_cons_zero, List.set_cons_succ]
    refine wpAnyL_take (i := 18) (v := ?_) rfl (by kernel_rfl) (by kernel_rfl) (by kernel_rfl) (by kernel_rfl) (by kernel_rfl) (fun _ _ _ h => h) (Or.inl ⟨by kernel_rfl, ?_⟩) s14 ?_
    rotate_left
    · rintro w' ⟨h1, h2, h3, h4, h5, h6, h7, h8, h9, h10, h11, h12⟩; go_simp; (try with_reducible rfl)
    try simp only [Act.put, List.getElem_toArray, List.getElem_cons_succ, List.getElem_cons_zero, List.setIfInBounds_toArray, List.set_cons_zero, List.set_cons_succ]
    refine wpAnyL_take (i := 20) (v := ?_) rfl (by kernel_rfl) (by kernel_rfl) (by kernel_rfl) (by kernel_rfl) (by kernel_rfl) (fun _ _ _ h => h) (Or.inl ⟨by kernel_rfl, ?_⟩) s14 ?_
    rotate_left
    · rintro w' ⟨h1, h2, h3, h4, h5, h6, h7, h8, h9, h10, h11, h12⟩; go_simp; (try with_reducible rfl)
    try simp only [Act.put, List.getElem_toArray, List.getElem_cons_succ, List.getElem_cons_zero, List.setIfInBounds_toArray, List.set_cons_zero, List.set_cons_succ]
    refine wpAnyL_take (i := 22) (v := ?_) rfl (by kernel_rfl) (by kernel_rfl) (by kernel_rfl) (by kernel_rfl) (by kernel_rfl) (fun _ _ _ h => h) (Or.inl ⟨by kernel_rfl, ?_⟩) s14 ?_
    rotate_left
    · rintro w' ⟨h1, h2, h3, h4, h5, h6, h7, h8, h9, h10, h11, h12⟩; go_simp; (try with_reducible rfl)
    try simp only [Act.put, List.getElem_toArray, List.getElem_cons_succ, List.getElem_cons_zero, List.setIfInBounds_toArray, List.set_cons_zero, List.set_cons_succ]
    refine wpAnyL_take (i := 23) (v := ?_) rfl (by kernel_rfl) (by kernel_rfl) (by kernel_rfl) (by kernel_rfl) (by kernel_rfl) (fun _ _ _ h => h) (Or.inl ⟨by kernel_rfl, ?_⟩) s14 ?_
    rotate_left
    · rintro w' ⟨h1, h2, h3, h4, h5, h6, h7, h8, h9, h10, h11, h12⟩; go_simp; (try with_reducible rfl)
    try simp only [Act.put, List.getElem_toArray, List.getElem_cons_succ, List.getElem_cons_zero, List.setIfInBounds_toArray, List.set_cons_zero, List.set_cons_succ]
    refine wpAnyL_take (i := 24) (v := ?_) rfl (by kernel_rfl) (by kernel_rfl) (by kernel_rfl) (by kernel_rfl) (by kernel_rfl) (fun _ _ _ h => h) (Or.inl ⟨by kernel_rfl, ?_⟩) s14 ?_
    rotate_left
    · rintro w' ⟨h1, h2, h3, h4, h5, h6, h7, h8, h9, h10, h11, h12⟩; go_simp; (try with_reducible rfl)
    try simp only [Act.put, List.getElem_toArray, List.getElem_cons_succ, List.getElem_cons_zero, List.setIfInBounds_toArray, List.set_cons_zero, List.set_cons_succ]
    refine wpAnyL_one (i := 19) (by kernel_rfl) rfl (fun K hK => ?_)
    go_simp
    refine (qadd (k := 4) (R14.z 17 rfl) (R14.z 16 rfl) (R14.z 15 rfl) (R14.z 14 rfl) (by decide) (by decide) (by decide) (by decide) (by decide) (by decide) Ha.out Hb.out).mono ?_; rintro e w15 ⟨b_t1n, A_t1n, n_t1n, b_t1d, A_t1d, n_t1d, rfl, z_t1n, z_t1d, hb15⟩
    have R15 := (((R14.below hb15).add z_t1n).add z_t1d)
    have s15 := And.intro (R15.cell 4 0 rfl rfl) (And.intro (R15.cell 4 1 rfl rfl) (And.intro (R15.cell 4 2 rfl rfl) (And.intro (R15.cell 4 3 rfl rfl) (And.intro (R15.cell 3 0 rfl rfl) (And.intro (R15.cell 3 1 rfl rfl) (And.intro (R15.cell 3 2 rfl rfl) (And.intro (R15.cell 3 3 rfl rfl) (And.intro (R15.cell 2 0 rfl rfl) (And.intro (R15.cell 2 1 rfl rfl) (And.intro (R15.cell 2 2 rfl rfl) (R15.cell 2 3 rfl rfl)))))))))))
    clear z_t1n z_t1d hb15 R14 s14
    go_wp2_with fail
    refine hK.out _ _ (fun _ => s15) ?_
    clear hK K
    try simp only [Act.put, List.getElem_toArray, List.getElem_cons_succ, List.getElem_cons_zero, List.setIfInBounds_toArray, List.set_cons_zero, List.set_cons_succ]
    refine wpAnyL_one (i := 21) (by kernel_rfl) rfl (fun K hK => ?_)
    go_simp
    refine (qadd (k := 9) (R15.z 1 rfl) (R15.z 0 rfl) (R15.z 15 rfl) (R15.z 14 rfl) (by decide) (by decide) (by decide) (by decide) (by decide) (by decide) (qv_self ((ra + rb))) Hc.out).mono ?_; rintro e w16 ⟨b_t2n, A_t2n, n_t2n, b_t2d, A_t2d, n_t2d, rfl, z_t2n, z_t2d, hb16⟩
    have R16 := (((R15.below hb16).add z_t2n).add z_t2d)
    have s16 := And.intro (R16.cell 4 0 rfl rfl) (And.intro (R16.cell 4 1 rfl rfl) (And.intro (R16.cell 4 2 rfl rfl) (And.intro (R16.cell 4 3 rfl rfl) (And.intro (R16.cell 3 0 rfl rfl) (And.intro (R16.cell 3 1 rfl rfl) (And.intro (R16.cell 3 2 rfl rfl) (And.intro (R16.cell 3 3 rfl rfl) (And.intro (R16.cell 2 0 rfl rfl) (And.intro (R16.cell 2 1 rfl rfl) (And.intro (R16.cell 2 2 rfl rfl) (R16.cell 2 3 rfl rfl)))))))))))
    clear z_t2n z_t2d hb16 R15 s15
    go_wp2_with fail
    refine hK.out _ _ (fun _ => s16) ?_
    clear hK K
    try simp only [Act.put, List.getElem_toArray, List.getElem_cons_succ, List.getElem_cons_zero, List.setIfInBounds_toArray, List.set_cons_zero, List.set_cons_succ]
    refine wpAnyL_one (i := 25) (by kernel_rfl) rfl (fun K hK => ?_)
    go_simp
    refine (qadd (k := 4) (R16.z 19 rfl) (R16.z 18 rfl) (R16.z 17 rfl) (R16.z 16 rfl) (by decide) (by decide) (by decide) (by decide) (by decide) (by decide) Hb.out Hc.out).mono ?_; rintro e w17 ⟨b_t3n, A_t3n, n_t3n, b_t3d, A_t3d, n_t3d, rfl, z_t3n, z_t3d, hb17⟩
    have R17 := (((R16.below hb17).add z_t3n).add z_t3d)
    have s17 := And.intro (R17.cell 4 0 rfl rfl) (And.intro (R17.cell 4 1 rfl rfl) (And.intro (R17.cell 4 2 rfl rfl) (And.intro (R17.cell 4 3 rfl rfl) (And.intro (R17.cell 3 0 rfl rfl) (And.intro (R17.cell 3 1 rfl rfl) (And.intro (R17.cell 3 2 rfl rfl) (And.intro (R17.cell 3 3 rfl rfl) (And.intro (R17.cell 2 0 rfl rfl) (And.intro (R17.cell 2 1 rfl rfl) (And.intro (R17.cell 2 2 rfl rfl) (R17.cell 2 3 rfl rfl)))))))))))
    clear z_t3n z_t3d hb17 R16 s16
    go_wp2_with fail
    refine hK.out _ _ (fun _ => s17) ?_
    clear hK K
    try simp only [Act.put, List.getElem_toArray, List.getElem_cons_succ, List.getElem_cons_zero, List.setIfInBounds_toArray, List.set_cons_zero, List.set_cons_succ]
    refine wpAnyL_one (i := 26) (by kernel_rfl) rfl (fun K hK => ?_)
    go_simp
    refine (qadd (k := 9) (R17.z 23 rfl) (R17.z 22 rfl) (R17.z 1 rfl) (R17.z 0 rfl) (by decide) (by decide) (by decide) (by decide) (by decide) (by decide) Ha.out (qv_self ((rb + rc)))).mono ?_; rintro e w18 ⟨b_t4n, A_t4n, n_t4n, b_t4d, A_t4d, n_t4d, rfl, z_t4n, z_t4d, hb18⟩
    have R18 := (((R17.below hb18).add z_t4n).add z_t4d)
    have s18 := And.intro (R18.cell 4 0 rfl rfl) (And.intro (R18.cell 4 1 rfl rfl) (And.intro (R18.cell 4 2 rfl rfl) (And.intro (R18.cell 4 3 rfl rfl) (And.intro (R18.cell 3 0 rfl rfl) (And.intro (R18.cell 3 1 rfl rfl) (And.intro (R18.cell 3 2 rfl rfl) (And.intro (R18.cell 3 3 rfl rfl) (And.intro (R18.cell 2 0 rfl rfl) (And.intro (R18.cell 2 1 rfl rfl) (And.intro (R18.cell 2 2 rfl rfl) (R18.cell 2 3 rfl rfl)))))))))))
    clear z_t4n z_t4d hb18 R17 s17
    go_wp2_with fail
    refine hK.out _ _ (fun _ => s18) ?_
    clear hK K
    try simp only [Act.put, List.getElem_toArray, List.getElem_cons_succ, List.getElem_cons_zero, List.setIfInBounds_toArray, List.set_cons_zero, List.set_cons_succ]
    refine wpAnyL_one (i := 27) (by kernel_rfl) rfl (fun K hK => ?_)
    go_simp
    refine (rqsame (R18.z 5 rfl) (R18.z 4 rfl) (R18.z 1 rfl) (R18.z 0 rfl) (by decide) (by decide) (by decide) (by decide) (qsame_eq (Rat.add_assoc ra rb rc))).mono ?_; rintro e w19 ⟨rfl, hb19⟩
    have R19 := (R18.below hb19)
    have s19 := And.intro (R19.cell 4 0 rfl rfl) (And.intro (R19.cell 4 1 rfl rfl) (And.intro (R19.cell 4 2 rfl rfl) (And.intro (R19.cell 4 3 rfl rfl) (And.intro (R19.cell 3 0 rfl rfl) (And.intro (R19.cell 3 1 rfl rfl) (And.intro (R19.cell 3 2 rfl rfl) (And.intro (R19.cell 3 3 rfl rfl) (And.intro (R19.cell 2 0 rfl rfl) (And.intro (R19.cell 2 1 rfl rfl) (And.intro (R19.cell 2 2 rfl rfl) (R19.cell 2 3 rfl rfl)))))))))))
    clear hb19 R18 s18
    go_wp2_with fail
    refine hK.out _ _ (fun _ => s19) ?_
    clear hK K
    try simp only [Act.put, List.getElem_toArray, List.getElem_cons_succ, List.getElem_cons_zero, List.setIfInBounds_toArray, List.set_cons_zero, List.set_cons_succ]
    refine wpAnyL_take (i := 28) (v := ?_) rfl (by kernel_rfl) (by kernel_rfl) (by kernel_rfl) (by kernel_rfl) (by kernel_rfl) (fun _ _ _ h => h) (Or.inl ⟨by kernel_rfl, ?_⟩) s19 ?_
    rotate_left
    · rintro w' ⟨h1, h2, h3, h4, h5, h6, h7, h8, h9, h10, h11, h12⟩; go_simp; (try with_reducible rfl)
    try simp only [Act.put, List.getElem_toArray, List.getElem_cons_succ, List.getElem_cons_zero, List.setIfInBounds_toArray, List.set_cons_zero, List.set_cons_succ]
    refine wpAnyL_take (i := 29) (v := ?_) rfl (by kernel_rfl) (by kernel_rfl) (by kernel_rfl) (by kernel_rfl) (by kernel_rfl) (fun _ _ _ h => h) (Or.inl ⟨by kernel_rfl, ?_⟩) s19 ?_
    rotate_left
    · rintro w' ⟨h1, h2, h3, h4, h5, h6, h7, h8, h9, h10, h11, h12⟩; go_simp; (try with_reducible rfl)
    try simp only [Act.put, List.getElem_toArray, List.getElem_cons_succ, List.getElem_cons_zero, List.setIfInBounds_toArray, List.set_cons_zero, List.set_cons_succ]
    refine wpAnyL_take (i := 30) (v := ?_) rfl (by kernel_rfl) (by kernel_rfl) (by kernel_rfl) (by kernel_rfl) (by kernel_rfl) (fun _ _ _ h => h) (Or.inl ⟨by kernel_rfl, ?_⟩) s19 ?_
    rotate_left
    · rintro w' ⟨h1, h2, h3, h4, h5, h6, h7, h8, h9, h10, h11, h12⟩; go_simp; (try with_reducible rfl)
    try simp only [Act.put, List.getElem_toArray, List.getElem_cons_succ, List.getElem_cons_zero, List.setIfInBounds_toArray, List.set_cons_zero, List.set_cons_succ]
    refine wpAnyL_take (i := 31) (v := ?_) rfl (by kernel_rfl) (by kernel_rfl) (by kernel_rfl) (by kernel_rfl) (by kernel_rfl) (fun _ _ _ h => h) (Or.inl ⟨by kernel_rfl, ?_⟩) s19 ?_
    rotate_left
    · rintro w' ⟨h1, h2, h3, h4, h5, h6, h7, h8, h9, h10, h11, h12⟩; go_simp; (try with_reducible rfl)
    try simp only [Act.put, List.getElem_toArray, List.getElem_cons_succ, List.getElem_cons_zero, List.setIfInBounds_toArray, List.set_cons_zero, List.set_cons_succ]
    refine wpAnyL_take (i := 33) (v := ?_) rfl (by kernel_rfl) (by kernel_rfl) (by kernel_rfl) (by kernel_rfl) (by kernel_rfl) (fun _ _ _ h => h) (Or.inl ⟨by kernel_rfl, ?_⟩) s19 ?_
    rotate_left
    · rintro w' ⟨h1, h2, h3, h4, h5, h6, h7, h8, h9, h10, h11, h12⟩; go_simp; (try with_reducible rfl)
    try simp only [Act.put, List.getElem_toArray, List.getElem_cons_succ, List.getElem_cons_zero, List.setIfInBounds_toArray, List.set_cons_zero, List.set_cons_succ]
    refine wpAnyL_take (i := 35) (v := ?_) rfl (by kernel_rfl) (by kernel_rfl) (by kernel_rfl) (by kernel_rfl) (by kernel_rfl) (fun _ _ _ h => h) (Or.inl ⟨by kernel_rfl, ?_⟩) s19 ?_
    rotate_left
    · rintro w' ⟨h1, h2, h3, h4, h5, h6, h7, h8, h9, h10, h11, h12⟩; go_simp; (try with_reducible rfl)
    try simp only [Act.put, List.getElem_toArray, List.getElem_cons_succ, List.getElem_cons_zero, List.setIfInBounds_toArray, List.set_cons_zero, List.set_cons_succ]
    refine wpAnyL_take (i := 36) (v := ?_) rfl (by kernel_rfl) (by kernel_rfl) (by kernel_rfl) (by kernel_rfl) (by kernel_rfl) (fun _ _ _ h => h) (Or.inl ⟨by kernel_rfl, ?_⟩) s19 ?_
    rotate_left
    · rintro w' ⟨h1, h2, h3, h4, h5, h6, h7, h8, h9, h10, h11, h12⟩; go_simp; (try with_reducible rfl)
    try simp only [Act.put, List.getElem_toArray, List.getElem_cons_succ, List.getElem_cons_zero, List.setIfInBounds_toArray, List.set_cons_zero, List.set_cons_succ]
    refine wpAnyL_take (i := 37) (v := ?_) rfl (by kernel_rfl) (by kernel_rfl) (by kernel_rfl) (by kernel_rfl) (by kernel_rfl) (fun _ _ _ h => h) (Or.inl ⟨by kernel_rfl, ?_⟩) s19 ?_
    rotate_left
    · rintro w' ⟨h1, h2, h3, h4, h5, h6, h7, h8, h9, h10, h11, h12⟩; go_simp; (try with_reducible rfl)
    try simp only [Act.put, List.getElem_toArray, List.getElem_cons_succ, List.getElem_cons_zero, List.setIfInBounds_toArray, List.set_cons_zero, List.set_cons_succ]
    refine wpAnyL_one (i := 32) (by kernel_rfl) rfl (fun K hK => ?_)
    go_simp
    refine (qmul (k := 4) (R19.z 25 rfl) (R19.z 24 rfl) (R19.z 23 rfl) (R19.z 22 rfl) (by decide) (by decide) (by decide) (by decide) (by decide) (by decide) Ha.out Hb.out).mono ?_; rintro e w20 ⟨b_u1n, A_u1n, n_u1n, b_u1d, A_u1d, n_u1d, rfl, z_u1n, z_u1d, hb20⟩
    have R20 := (((R19.below hb20).add z_u1n).add z_u1d)
    have s20 := And.intro (R20.cell 4 0 rfl rfl) (And.intro (R20.cell 4 1 rfl rfl) (And.intro (R20.cell 4 2 rfl rfl) (And.intro (R20.cell 4 3 rfl rfl) (And.intro (R20.cell 3 0 rfl rfl) (And.intro (R20.cell 3 1 rfl rfl) (And.intro (R20.cell 3 2 rfl rfl) (And.intro (R20.cell 3 3 rfl rfl) (And.intro (R20.cell 2 0 rfl rfl) (And.intro (R20.cell 2 1 rfl rfl) (And.intro (R20.cell 2 2 rfl rfl) (R20.cell 2 3 rfl rfl)))))))))))
    clear z_u1n z_u1d hb20 R19 s19
    go_wp2_with fail
    refine hK.out _ _ (fun _ => s20) ?_
    clear hK K
    try simp only [Act.put, List.getElem_toArray, List.getElem_cons_succ, List.getElem_cons_zero, List.setIfInBounds_toArray, List.set_cons_zero, List.set_cons_succ]
    refine wpAnyL_one (i := 34) (by kernel_rfl) rfl (fun K hK => ?_)
    go_simp
    refine (qmul (k := 8) (R20.z 1 rfl) (R20.z 0 rfl) (R20.z 23 rfl) (R20.z 22 rfl) (by decide) (by decide) (by decide) (by decide) (by decide) (by decide) (qv_self ((ra * rb))) Hc.out).mono ?_; rintro e w21 ⟨b_u2n, A_u2n, n_u2n, b_u2d, A_u2d, n_u2d, rfl, z_u2n, z_u2d, hb21⟩
    have R21 := (((R20.below hb21).add z_u2n).add z_u2d)
    have s21 := And.intro (R21.cell 4 0 rfl rfl) (And.intro (R21.cell 4 1 rfl rfl) (And.intro (R21.cell 4 2 rfl rfl) (And.intro (R21.cell 4 3 rfl rfl) (And.intro (R21.cell 3 0 rfl rfl) (And.intro (R21.cell 3 1 rfl rfl) (And.intro (R21.cell 3 2 rfl rfl) (And.intro (R21.cell 3 3 rfl rfl) (And.intro (R21.cell 2 0 rfl rfl) (And.intro (R21.cell 2 1 rfl rfl) (And.intro (R21.cell 2 2 rfl rfl) (R21.cell 2 3 rfl rfl)))))))))))
    clear z_u2n z_u2d hb21 R20 s20
    go_wp2_with fail
    refine hK.out _ _ (fun _ => s21) ?_
    clear hK K
    try simp only [Act.put, List.getElem_toArray, List.getElem_cons_succ, List.getElem_cons_zero, List.setIfInBounds_toArray, List.set_cons_zero, List.set_cons_succ]
    refine wpAnyL_one (i := 38) (by kernel_rfl) rfl (fun K hK => ?_)
    go_simp
    refine (qmul (k := 4) (R21.z 27 rfl) (R21.z 26 rfl) (R21.z 25 rfl) (R21.z 24 rfl) (by decide) (by decide) (by decide) (by decide) (by decide) (by decide) Hb.out Hc.out).mono ?_; rintro e w22 ⟨b_u3n, A_u3n, n_u3n, b_u3d, A_u3d, n_u3d, rfl, z_u3n, z_u3d, hb22⟩
    have R22 := (((R21.below hb22).add z_u3n).add z_u3d)
    have s22 := And.intro (R22.cell 4 0 rfl rfl) (And.intro (R22.cell 4 1 rfl rfl) (And.intro (R22.cell 4 2 rfl rfl) (And.intro (R22.cell 4 3 rfl rfl) (And.intro (R22.cell 3 0 rfl rfl) (And.intro (R22.cell 3 1 rfl rfl) (And.intro (R22.cell 3 2 rfl rfl) (And.intro (R22.cell 3 3 rfl rfl) (And.intro (R22.cell 2 0 rfl rfl) (And.intro (R22.cell 2 1 rfl rfl) (And.intro (R22.cell 2 2 rfl rfl) (R22.cell 2 3 rfl rfl)))))))))))
    clear z_u3n z_u3d hb22 R21 s21
    go_wp2_with fail
    refine hK.out _ _ (fun _ => s22) ?_
    clear hK K
    try simp only [Act.put, List.getElem_toArray, List.getElem_cons_succ, List.getElem_cons_zero, List.setIfInBounds_toArray, List.set_cons_zero, List.set_cons_succ]
    refine wpAnyL_one (i := 39) (by kernel_rfl) rfl (fun K hK => ?_)
    go_simp
    refine (qmul (k := 8) (R22.z 31 rfl) (R22.z 30 rfl) (R22.z 1 rfl) (R22.z 0 rfl) (by decide) (by decide) (by decide) (by decide) (by decide) (by decide) Ha.out (qv_self ((rb * rc)))).mono ?_; rintro e w23 ⟨b_u4n, A_u4n, n_u4n, b_u4d, A_u4d, n_u4d, rfl, z_u4n, z_u4d, hb23⟩
    have R23 := (((R22.below hb23).add z_u4n).add z_u4d)
    have s23 := And.intro (R23.cell 4 0 rfl rfl) (And.intro (R23.cell 4 1 rfl rfl) (And.intro (R23.cell 4 2 rfl rfl) (And.intro (R23.cell 4 3 rfl rfl) (And.intro (R23.cell 3 0 rfl rfl) (And.intro (R23.cell 3 1 rfl rfl) (And.intro (R23.cell 3 2 rfl rfl) (And.intro (R23.cell 3 3 rfl rfl) (And.intro (R23.cell 2 0 rfl rfl) (And.intro (R23.cell 2 1 rfl rfl) (And.intro (R23.cell 2 2 rfl rfl) (R23.cell 2 3 rfl rfl)))))))))))
    clear z_u4n z_u4d hb23 R22 s22
    go_wp2_with fail
    refine hK.out _ _ (fun _ => s23) ?_
    clear hK K
    try simp only [Act.put, List.getElem_toArray, List.getElem_cons_succ, List.getElem_cons_zero, List.setIfInBounds_toArray, List.set_cons_zero, List.set_cons_succ]
    refine wpAnyL_one (i := 40) (by kernel_rfl) rfl (fun K hK => ?_)
    go_simp
    refine (rqsame (R23.z 5 rfl) (R23.z 4 rfl) (R23.z 1 rfl) (R23.z 0 rfl) (by decide) (by decide) (by decide) (by decide) (qsame_eq (Rat.mul_assoc ra rb rc))).mono ?_; rintro e w24 ⟨rfl, hb24⟩
    have R24 := (R23.below hb24)
    have s24 := And.intro (R24.cell 4 0 rfl rfl) (And.intro (R24.cell 4 1 rfl rfl) (And.intro (R24.cell 4 2 rfl rfl) (And.intro (R24.cell 4 3 rfl rfl) (And.intro (R24.cell 3 0 rfl rfl) (And.intro (R24.cell 3 1 rfl rfl) (And.intro (R24.cell 3 2 rfl rfl) (And.intro (R24.cell 3 3 rfl rfl) (And.intro (R24.cell 2 0 rfl rfl) (And.intro (R24.cell 2 1 rfl rfl) (And.intro (R24.cell 2 2 rfl rfl) (R24.cell 2 3 rfl rfl)))))))))))
    clear hb24 R23 s23
    go_wp2_with fail
    refine hK.out _ _ (fun _ => s24) ?_
    clear hK K
    try simp only [Act.put, List.getElem_toArray, List.getElem_cons_succ, List.getElem_cons_zero, List.setIfInBounds_toArray, List.set_cons_zero, List.set_cons_succ]
    refine wpAnyL_take (i := 41) (v := ?_) rfl (by kernel_rfl) (by kernel_rfl) (by kernel_rfl) (by kernel_rfl) (by kernel_rfl) (fun _ _ _ h => h) (Or.inl ⟨by kernel_rfl, ?_⟩) s24 ?_
    rotate_left
    · rintro w' ⟨h1, h2, h3, h4, h5, h6, h7, h8, h9, h10, h11, h12⟩; go_simp; (try with_reducible rfl)
    try simp only [Act.put, List.getElem_toArray, List.getElem_cons_succ, List.getElem_cons_zero, List.setIfInBounds_toArray, List.set_cons_zero, List.set_cons_succ]
    refine wpAnyL_take (i := 42) (v := ?_) rfl (by kernel_rfl) (by kernel_rfl) (by kernel_rfl) (by kernel_rfl) (by kernel_rfl) (fun _ _ _ h => h) (Or.inl ⟨by kernel_rfl, ?_⟩) s24 ?_
    rotate_left
    · rintro w' ⟨h1, h2, h3, h4, h5, h6, h7, h8, h9, h10, h11, h12⟩; go_simp; (try with_reducible rfl)
    try simp only [Act.put, List.getElem_toArray, List.getElem_cons_succ, List.getElem_cons_zero, List.setIfInBounds_toArray, List.set_cons_zero, List.set_cons_succ]
    refine wpAnyL_take (i := 43) (v := ?_) rfl (by kernel_rfl) (by kernel_rfl) (by kernel_rfl) (by kernel_rfl) (by kernel_rfl) (fun _ _ _ h => h) (Or.inl ⟨by kernel_rfl, ?_⟩) s24 ?_
    rotate_left
    · rintro w' ⟨h1, h2, h3, h4, h5, h6, h7, h8, h9, h10, h11, h12⟩; go_simp; (try with_reducible rfl)
    try simp only [Act.put, List.getElem_toArray, List.getElem_cons_succ, List.getElem_cons_zero, List.setIfInBounds_toArray, List.set_cons_zero, List.set_cons_succ]
    refine wpAnyL_take (i := 44) (v := ?_) rfl (by kernel_rfl) (by kernel_rfl) (by kernel_rfl) (by kernel_rfl) (by kernel_rfl) (fun _ _ _ h => h) (Or.inl ⟨by kernel_rfl, ?_⟩) s24 ?_
    rotate_left
    · rintro w' ⟨h1, h2, h3, h4, h5, h6, h7, h8, h9, h10, h11, h12⟩; go_simp; (try with_reducible rfl)
    try simp only [Act.put, List.getElem_toArray, List.getElem_cons_succ, List.getElem_cons_zero, List.setIfInBounds_toArray, List.set_cons_zero, List.set_cons_succ]
    refine wpAnyL_take (i := 45) (v := ?_) rfl (by kernel_rfl) (by kernel_rfl) (by kernel_rfl) (by kernel_rfl) (by kernel_rfl) (fun _ _ _ h => h) (Or.inl ⟨by kernel_rfl, ?_⟩) s24 ?_
    rotate_left
    · rintro w' ⟨h1, h2, h3, h4, h5, h6, h7, h8, h9, h10, h11, h12⟩; go_simp; (try with_reducible rfl)
    try simp only [Act.put, List.getElem_toArray, List.getElem_cons_succ, List.getElem_cons_zero, List.setIfInBounds_toArray, List.set_cons_zero, List.set_cons_succ]
    refine wpAnyL_take (i := 48) (v := ?_) rfl (by kernel_rfl) (by kernel_rfl) (by kernel_rfl) (by kernel_rfl) (by kernel_rfl) (fun _ _ _ h => h) (Or.inl ⟨by kernel_rfl, ?_⟩) s24 ?_
    rotate_left
    · rintro w' ⟨h1, h2, h3, h4, h5, h6, h7, h8, h9, h10, h11, h12⟩; go_simp; (try with_reducible rfl)
    try simp only [Act.put, List.getElem_toArray, List.getElem_cons_succ, List.getElem_cons_zero, List.setIfInBounds_toArray, List.set_cons_zero, List.set_cons_succ]
    refine wpAnyL_take (i := 49) (v := ?_) rfl (by kernel_rfl) (by kernel_rfl) (by kernel_rfl) (by kernel_rfl) (by kernel_rfl) (fun _ _ _ h => h) (Or.inl ⟨by kernel_rfl, ?_⟩) s24 ?_
    rotate_left
    · rintro w' ⟨h1, h2, h3, h4, h5, h6, h7, h8, h9, h10, h11, h12⟩; go_simp; (try with_reducible rfl)
    try simp only [Act.put, List.getElem_toArray, List.getElem_cons_succ, List.getElem_cons_zero, List.setIfInBounds_toArray, List.set_cons_zero, List.set_cons_succ]
    refine wpAnyL_take (i := 51) (v := ?_) rfl (by kernel_rfl) (by kernel_rfl) (by kernel_rfl) (by kernel_rfl) (by kernel_rfl) (fun _ _ _ h => h) (Or.inl ⟨by kernel_rfl, ?_⟩) s24 ?_
    rotate_left
    · rintro w' ⟨h1, h2, h3, h4, h5, h6, h7, h8, h9, h10, h11, h12⟩; go_simp; (try with_reducible rfl)
    try simp only [Act.put, List.getElem_toArray, List.getElem_cons_succ, List.getElem_cons_zero, List.setIfInBounds_toArray, List.set_cons_zero, List.set_cons_succ]
    refine wpAnyL_take (i := 52) (v := ?_) rfl (by kernel_rfl) (by kernel_rfl) (by kernel_rfl) (by kernel_rfl) (by kernel_rfl) (fun _ _ _ h => h) (Or.inl ⟨by kernel_rfl, ?_⟩) s24 ?_
    rotate_left
    · rintro w' ⟨h1, h2, h3, h4, h5, h6, h7, h8, h9, h10, h11, h12⟩; go_simp; (try with_reducible rfl)
    try simp only [Act.put, List.getElem_toArray, List.getElem_cons_succ, List.getElem_cons_zero, List.setIfInBounds_toArray, List.set_cons_zero, List.set_cons_succ]
    refine wpAnyL_one (i := 46) (by kernel_rfl) rfl (fun K hK => ?_)
    go_simp
    refine (qadd (k := 4) (R24.z 31 rfl) (R24.z 30 rfl) (R24.z 29 rfl) (R24.z 28 rfl) (by decide) (by decide) (by decide) (by decide) (by decide) (by decide) Hb.out Hc.out).mono ?_; rintro e w25 ⟨b_v1n, A_v1n, n_v1n, b_v1d, A_v1d, n_v1d, rfl, z_v1n, z_v1d, hb25⟩
    have R25 := (((R24.below hb25).add z_v1n).add z_v1d)
    have s25 := And.intro (R25.cell 4 0 rfl rfl) (And.intro (R25.cell 4 1 rfl rfl) (And.intro (R25.cell 4 2 rfl rfl) (And.intro (R25.cell 4 3 rfl rfl) (And.intro (R25.cell 3 0 rfl rfl) (And.intro (R25.cell 3 1 rfl rfl) (And.intro (R25.cell 3 2 rfl rfl) (And.intro (R25.cell 3 3 rfl rfl) (And.intro (R25.cell 2 0 rfl rfl) (And.intro (R25.cell 2 1 rfl rfl) (And.intro (R25.cell 2 2 rfl rfl) (R25.cell 2 3 rfl rfl)))))))))))
    clear z_v1n z_v1d hb25 R24 s24
    go_wp2_with fail
    refine hK.out _ _ (fun _ => s25) ?_
    clear hK K
    try simp only [Act.put, List.getElem_toArray, List.getElem_cons_succ, List.getElem_cons_zero, List.setIfInBounds_toArray, List.set_cons_zero, List.set_cons_succ]
    refine wpAnyL_one (i := 47) (by kernel_rfl) rfl (fun K hK => ?_)
    go_simp
    refine (qmul (k := 9) (R25.z 35 rfl) (R25.z 34 rfl) (R25.z 1 rfl) (R25.z 0 rfl) (by decide) (by decide) (by decide) (by decide) (by decide) (by decide) Ha.out (qv_self ((rb + rc)))).mono ?_; rintro e w26 ⟨b_v2n, A_v2n, n_v2n, b_v2d, A_v2d, n_v2d, rfl, z_v2n, z_v2d, hb26⟩
    have R26 := (((R25.below hb26).add z_v2n).add z_v2d)
    have s26 := And.intro (R26.cell 4 0 rfl rfl) (And.intro (R26.cell 4 1 rfl rfl) (And.intro (R26.cell 4 2 rfl rfl) (And.intro (R26.cell 4 3 rfl rfl) (And.intro (R26.cell 3 0 rfl rfl) (And.intro (R26.cell 3 1 rfl rfl) (And.intro (R26.cell 3 2 rfl rfl) (And.intro (R26.cell 3 3 rfl rfl) (And.intro (R26.cell 2 0 rfl rfl) (And.intro (R26.cell 2 1 rfl rfl) (And.intro (R26.cell 2 2 rfl rfl) (R26.cell 2 3 rfl rfl)))))))))))
    clear z_v2n z_v2d hb26 R25 s25
    go_wp2_with fail
    refine hK.out _ _ (fun _ => s26) ?_
    clear hK K
    try simp only [Act.put, List.getElem_toArray, List.getElem_cons_succ, List.getElem_cons_zero, List.setIfInBounds_toArray, List.set_cons_zero, List.set_cons_succ]
    refine wpAnyL_one (i := 50) (by kernel_rfl) rfl (fun K hK => ?_)
    go_simp
    refine (qmul (k := 4) (R26.z 37 rfl) (R26.z 36 rfl) (R26.z 35 rfl) (R26.z 34 rfl) (by decide) (by decide) (by decide) (by decide) (by decide) (by decide) Ha.out Hb.out).mono ?_; rintro e w27 ⟨b_v3n, A_v3n, n_v3n, b_v3d, A_v3d, n_v3d, rfl, z_v3n, z_v3d, hb27⟩
    have R27 := (((R26.below hb27).add z_v3n).add z_v3d)
    have s27 := And.intro (R27.cell 4 0 rfl rfl) (And.intro (R27.cell 4 1 rfl rfl) (And.intro (R27.cell 4 2 rfl rfl) (And.intro (R27.cell 4 3 rfl rfl) (And.intro (R27.cell 3 0 rfl rfl) (And.intro (R27.cell 3 1 rfl rfl) (And.intro (R27.cell 3 2 rfl rfl) (And.intro (R27.cell 3 3 rfl rfl) (And.intro (R27.cell 2 0 rfl rfl) (And.intro (R27.cell 2 1 rfl rfl) (And.intro (R27.cell 2 2 rfl rfl) (R27.cell 2 3 rfl rfl)))))))))))
    clear z_v3n z_v3d hb27 R26 s26
    go_wp2_with fail
    refine hK.out _ _ (fun _ => s27) ?_
    clear hK K
    try simp only [Act.put, List.getElem_toArray, List.getElem_cons_succ, List.getElem_cons_zero, List.setIfInBounds_toArray, List.set_cons_zero, List.set_cons_succ]
    refine wpAnyL_one (i := 53) (by kernel_rfl) rfl (fun K hK => ?_)
    go_simp
    refine (qmul (k := 4) (R27.z 39 rfl) (R27.z 38 rfl) (R27.z 35 rfl) (R27.z 34 rfl) (by decide) (by decide) (by decide) (by decide) (by decide) (by decide) Ha.out Hc.out).mono ?_; rintro e w28 ⟨b_v4n, A_v4n, n_v4n, b_v4d, A_v4d, n_v4d, rfl, z_v4n, z_v4d, hb28⟩
    have R28 := (((R27.below hb28).add z_v4n).add z_v4d)
    have s28 := And.intro (R28.cell 4 0 rfl rfl) (And.intro (R28.cell 4 1 rfl rfl) (And.intro (R28.cell 4 2 rfl rfl) (And.intro (R28.cell 4 3 rfl rfl) (And.intro (R28.cell 3 0 rfl rfl) (And.intro (R28.cell 3 1 rfl rfl) (And.intro (R28.cell 3 2 rfl rfl) (And.intro (R28.cell 3 3 rfl rfl) (And.intro (R28.cell 2 0 rfl rfl) (And.intro (R28.cell 2 1 rfl rfl) (And.intro (R28.cell 2 2 rfl rfl) (R28.cell 2 3 rfl rfl)))))))))))
    clear z_v4n z_v4d hb28 R27 s27
    go_wp2_with fail
    refine hK.out _ _ (fun _ => s28) ?_
    clear hK K
    try simp only [Act.put, List.getElem_toArray, List.getElem_cons_succ, List.getElem_cons_zero, List.setIfInBounds_toArray, List.set_cons_zero, List.set_cons_succ]
    refine wpAnyL_one (i := 54) (by kernel_rfl) rfl (fun K hK => ?_)
    go_simp
    refine (qadd (k := 8) (R28.z 3 rfl) (R28.z 2 rfl) (R28.z 1 rfl) (R28.z 0 rfl) (by decide) (by decide) (by decide) (by decide) (by decide) (by decide) (qv_self ((ra * rb))) (qv_self ((ra * rc)))).mono ?_; rintro e w29 ⟨b_v5n, A_v5n, n_v5n, b_v5d, A_v5d, n_v5d, rfl, z_v5n, z_v5d, hb29⟩
    have R29 := (((R28.below hb29).add z_v5n).add z_v5d)
    have s29 := And.intro (R29.cell 4 0 rfl rfl) (And.intro (R29.cell 4 1 rfl rfl) (And.intro (R29.cell 4 2 rfl rfl) (And.intro (R29.cell 4 3 rfl rfl) (And.intro (R29.cell 3 0 rfl rfl) (And.intro (R29.cell 3 1 rfl rfl) (And.intro (R29.cell 3 2 rfl rfl) (And.intro (R29.cell 3 3 rfl rfl) (And.intro (R29.cell 2 0 rfl rfl) (And.intro (R29.cell 2 1 rfl rfl) (And.intro (R29.cell 2 2 rfl rfl) (R29.cell 2 3 rfl rfl)))))))))))
    clear z_v5n z_v5d hb29 R28 s28
    go_wp2_with fail
    refine hK.out _ _ (fun _ => s29) ?_
    clear hK K
    try simp only [Act.put, List.getElem_toArray, List.getElem_cons_succ, List.getElem_cons_zero, List.setIfInBounds_toArray, List.set_cons_zero, List.set_cons_succ]
    refine wpAnyL_one (i := 55) (by kernel_rfl) rfl (fun K hK => ?_)
    go_simp
    refine (rqsame (R29.z 7 rfl) (R29.z 6 rfl) (R29.z 1 rfl) (R29.z 0 rfl) (by decide) (by decide) (by decide) (by decide) (qsame_eq (Rat.mul_add ra rb rc))).mono ?_; rintro e w30 ⟨rfl, hb30⟩
    have R30 := (R29.below hb30)
    have s30 := And.intro (R30.cell 4 0 rfl rfl) (And.intro (R30.cell 4 1 rfl rfl) (And.intro (R30.cell 4 2 rfl rfl) (And.intro (R30.cell 4 3 rfl rfl) (And.intro (R30.cell 3 0 rfl rfl) (And.intro (R30.cell 3 1 rfl rfl) (And.intro (R30.cell 3 2 rfl rfl) (And.intro (R30.cell 3 3 rfl rfl) (And.intro (R30.cell 2 0 rfl rfl) (And.intro (R30.cell 2 1 rfl rfl) (And.intro (R30.cell 2 2 rfl rfl) (R30.cell 2 3 rfl rfl)))))))))))
    clear hb30 R29 s29
    go_wp2_with fail
    refine hK.out _ _ (fun _ => s30) ?_
    clear hK K
    try simp only [Act.put, List.getElem_toArray, List.getElem_cons_succ, List.getElem_cons_zero, List.setIfInBounds_toArray, List.set_cons_zero, List.set_cons_succ]
    refine wpAnyL_take (i := 56) (v := ?_) rfl (by kernel_rfl) (by kernel_rfl) (by kernel_rfl) (by kernel_rfl) (by kernel_rfl) (fun _ _ _ h => h) (Or.inl ⟨by kernel_rfl, ?_⟩) s30 ?_
    rotate_left
    · rintro w' ⟨h1, h2, h3, h4, h5, h6, h7, h8, h9, h10, h11, h12⟩; go_simp; (try with_reducible rfl)
    try simp only [Act.put, List.getElem_toArray, List.getElem_cons_succ, List.getElem_cons_zero, List.setIfInBounds_toArray, List.set_cons_zero, List.set_cons_succ]
    refine wpAnyL_one (i := 57) (by kernel_rfl) rfl (fun K hK => ?_)
    go_simp
    refine hK.out _ _ (fun _ => s30) ?_
    clear hK K
    try simp only [Act.put, List.getElem_toArray, List.getElem_cons_succ, List.getElem_cons_zero, List.setIfInBounds_toArray, List.set_cons_zero, List.set_cons_succ]
    refine wpAnyL_done (by kernel_rfl) ?_ _
    go_wp2_with fail
    go_ret
    exact ⟨rfl, R30.bel⟩
  · have H0 := Lib.hid h0
    clear h0
    go_enter Tryz.func8, Tryz.ntmps8
    go_wp2_with fail
    refine (qawake_any _).mono ?_; rintro e w1 ⟨rfl, hb1⟩
    have R1 := (R0.below hb1)
    clear hb1 R0
    have k2a0 := R1.cell 2 0 rfl rfl
    have k2a1 := R1.cell 2 1 rfl rfl
    have k2a2 := R1.cell 2 2 rfl rfl
    have k2a3 := R1.cell 2 3 rfl rfl
    go_wp2_with fail
    clear k2a0 k2a1 k2a2 k2a3
    refine (qfew _ _ _ _ _ _ _ _ _).mono ?_; rintro e w2 ⟨rfl, hb2⟩
    have R2 := (R1.below hb2)
    clear hb2 R1
    rw [decide_eq_true hfa.out]
    have k3b0 := R2.cell 1 0 rfl rfl
    have k3b1 := R2.cell 1 1 rfl rfl
    have k3b2 := R2.cell 1 2 rfl rfl
    have k3b3 := R2.cell 1 3 rfl rfl
    go_wp2_with fail
    clear k3b0 k3b1 k3b2 k3b3
    refine (qfew _ _ _ _ _ _ _ _ _).mono ?_; rintro e w3 ⟨rfl, hb3⟩
    have R3 := (R2.below hb3)
    clear hb3 R2
    rw [decide_eq_true hfb.out]
    have k4c0 := R3.cell 0 0 rfl rfl
    have k4c1 := R3.cell 0 1 rfl rfl
    have k4c2 := R3.cell 0 2 rfl rfl
    have k4c3 := R3.cell 0 3 rfl rfl
    go_wp2_with fail
    clear k4c0 k4c1 k4c2 k4c3
    refine (qfew _ _ _ _ _ _ _ _ _).mono ?_; rintro e w4 ⟨rfl, hb4⟩
    have R4 := (R3.below hb4)
    clear hb4 R3
    rw [decide_eq_true hfc.out]
    go_wp2_with fail
    refine (qof 1 1 ⟨by decide, by decide⟩ ⟨by decide, by decide⟩ _ qone_of (by decide : decide ((1 : Int) ≠ 0) = true)).mono ?_; rintro e w5 ⟨b_onen, A_onen, n_onen, b_oned, A_oned, n_oned, rfl, z_onen, z_oned, hb5⟩
    have R5 := ((((R4.below hb5).add z_onen).add z_oned).alloc 26 #[.bool b_onen, .slice A_onen n_onen n_onen, .bool b_oned, .slice A_oned n_oned n_oned] (g := w5.heap.size) rfl rfl)
    clear z_onen z_oned hb5 R4
    have k6one0 := R5.cell 0 0 rfl rfl
    have k6one1 := R5.cell 0 1 rfl rfl
    have k6one2 := R5.cell 0 2 rfl rfl
    have k6one3 := R5.cell 0 3 rfl rfl
    have k6a0 := R5.cell 3 0 rfl rfl
    have k6a1 := R5.cell 3 1 rfl rfl
    have k6a2 := R5.cell 3 2 rfl rfl
    have k6a3 := R5.cell 3 3 rfl rfl
    go_wp2_with fail
    clear k6one0 k6one1 k6one2 k6one3 k6a0 k6a1 k6a2 k6a3
    refine (qdiv (k := 4) (R5.z 1 rfl) (R5.z 0 rfl) (R5.z 7 rfl) (R5.z 6 rfl) (by decide) (by decide) (by decide) (by decide) (by decide) (by decide) (qv_self (1)) Ha.out H0.out).mono ?_; rintro e w6 ⟨b_invn, A_invn, n_invn, b_invd, A_invd, n_invd, rfl, z_invn, z_invd, hb6⟩
    have R6 := ((((R5.below hb6).add z_invn).add z_invd).alloc 26 #[.bool b_invn, .slice A_invn n_invn n_invn, .bool b_invd, .slice A_invd n_invd n_invd] (g := w6.heap.size) rfl rfl)
    clear z_invn z_invd hb6 R5
    go_wp2_with fail
    have D7 := R6.drew
    have s7 := And.intro (D7.cell 4 0 rfl rfl) (And.intro (D7.cell 4 1 rfl rfl) (And.intro (D7.cell 4 2 rfl rfl) (And.intro (D7.cell 4 3 rfl rfl) (And.intro (D7.cell 1 0 rfl rfl) (And.intro (D7.cell 1 1 rfl rfl) (And.intro (D7.cell 1 2 rfl rfl) (And.intro (D7.cell 1 3 rfl rfl) (And.intro (D7.cell 0 0 rfl rfl) (And.intro (D7.cell 0 1 rfl rfl) (And.intro (D7.cell 0 2 rfl rfl) (D7.cell 0 3 rfl rfl)))))))))))
    refine wp_region_late [] (fun w' => w'.cell? ⟨w.heap.size, 0, none⟩ = some (.bool ba) ∧ w'.cell? ⟨w.heap.size, 1, none⟩ = some (.slice Aa na ca) ∧ w'.cell? ⟨w.heap.size, 2, none⟩ = some (.bool ba') ∧ w'.cell? ⟨w.heap.size, 3, none⟩ = some (.slice Aa' na' ca') ∧ w'.cell? ⟨w5.heap.size, 0, none⟩ = some (.bool b_onen) ∧ w'.cell? ⟨w5.heap.size, 1, none⟩ = some (.slice A_onen n_onen n_onen) ∧ w'.cell? ⟨w5.heap.size, 2, none⟩ = some (.bool b_oned) ∧ w'.cell? ⟨w5.heap.size, 3, none⟩ = some (.slice A_oned n_oned n_oned) ∧ w'.cell? ⟨w6.heap.size, 0, none⟩ = some (.bool b_invn) ∧ w'.cell? ⟨w6.heap.size, 1, none⟩ = some (.slice A_invn n_invn n_invn) ∧ w'.cell? ⟨w6.heap.size, 2, none⟩ = some (.bool b_invd) ∧ w'.cell? ⟨w6.heap.size, 3, none⟩ = some (.slice A_invd n_invd n_invd)) (by kernel_rfl) ?_
    refine wpAnyL_take (i := 0) (v := ?_) rfl (by kernel_rfl) (by kernel_rfl) (by kernel_rfl) (by kernel_rfl) (by kernel_rfl) (fun _ _ _ h => h) (Or.inl ⟨by kernel_rfl, ?_⟩) s7 ?_
    rotate_left
    · rintro w' ⟨h1, h2, h3, h4, h5, h6, h7, h8, h9, h10, h11, h12⟩; go_simp; (try with_reducible rfl)
    try simp only [Act.put, List.getElem_toArray, List.getElem_cons_succ, List.getElem_cons_zero, List.setIfInBounds_toArray, List.set_cons_zero, List.set_cons_succ]
    refine wpAnyL_take (i := 1) (v := ?_) rfl (by kernel_rfl) (by kernel_rfl) (by kernel_rfl) (by kernel_rfl) (by kernel_rfl) (fun _ _ _ h => h) (Or.inl ⟨by kernel_rfl, ?_⟩) s7 ?_
    rotate_left
    · rintro w' ⟨h1, h2, h3, h4, h5, h6, h7, h8, h9, h10, h11, h12⟩; go_simp; (try with_reducible rfl)
    try simp only [Act.put, List.getElem_toArray, List.getElem_cons_succ, List.getElem_cons_zero, List.setIfInBounds_toArray, List.set_cons_zero, List.set_cons_succ]
    refine wpAnyL_take (i := 2) (v := ?_) rfl (by kernel_rfl) (by kernel_rfl) (by kernel_rfl) (by kernel_rfl) (by kernel_rfl) (fun _ _ _ h => h) (Or.inl ⟨by kernel_rfl, ?_⟩) s7 ?_
    rotate_left
    · rintro w' ⟨h1, h2, h3, h4, h5, h6, h7, h8, h9, h10, h11, h12⟩; go_simp; (try with_reducible rfl)
    try simp only [Act.put, List.getElem_toArray, List.getElem_cons_succ, List.getElem_cons_zero, List.setIfInBounds_toArray, List.set_cons_zero, List.set_cons_succ]
    refine wpAnyL_take (i := 3) (v := ?_) rfl (by kernel_rfl) (by kernel_rfl) (by kernel_rfl) (by kernel_rfl) (by kernel_rfl) (fun _ _ _ h => h) (Or.inl ⟨by kernel_rfl, ?_⟩) s7 ?_
    rotate_left
    · rintro w' ⟨h1, h2, h3, h4, h5, h6, h7, h8, h9, h10, h11, h12⟩; go_simp; (try with_reducible rfl)
    try simp only [Act.put, List.getElem_toArray, List.getElem_cons_succ, List.getElem_cons_zero, List.setIfInBounds_toArray, List.set_cons_zero, List.set_cons_succ]
    refine wpAnyL_take (i := 5) (v := ?_) rfl (by kernel_rfl) (by kernel_rfl) (by kernel_rfl) (by kernel_rfl) (by kernel_rfl) (fun _ _ _ h => h) (Or.inl ⟨by kernel_rfl, ?_⟩) s7 ?_
    rotate_left
    · rintro w' ⟨h1, h2, h3, h4, h5, h6, h7, h8, h9, h10, h11, h12⟩; go_simp; (try with_reducible rfl)
    try simp only [Act.put, List.getElem_toArray, List.getElem_cons_succ, List.getElem_cons_zero, List.setIfInBounds_toArray, List.set_cons_zero, List.set_cons_succ]
    refine wpAnyL_one (i := 4) (by kernel_rfl) rfl (fun K hK => ?_)
    go_simp
    refine (qmul (k := 8) (D7.z 9 rfl) (D7.z 8 rfl) (D7.z 1 rfl) (D7.z 0 rfl) (by decide) (by decide) (by decide) (by decide) (by decide) (by decide) Ha.out (qv_self ((1 / ra)))).mono ?_; rintro e w8 ⟨b_mn, A_mn, n_mn, b_md, A_md, n_md, rfl, z_mn, z_md, hb8⟩
    have R8 := (((D7.below hb8).add z_mn).add z_md)
    have s8 := And.intro (R8.cell 4 0 rfl rfl) (And.intro (R8.cell 4 1 rfl rfl) (And.intro (R8.cell 4 2 rfl rfl) (And.intro (R8.cell 4 3 rfl rfl) (And.intro (R8.cell 1 0 rfl rfl) (And.intro (R8.cell 1 1 rfl rfl) (And.intro (R8.cell 1 2 rfl rfl) (And.intro (R8.cell 1 3 rfl rfl) (And.intro (R8.cell 0 0 rfl rfl) (And.intro (R8.cell 0 1 rfl rfl) (And.intro (R8.cell 0 2 rfl rfl) (R8.cell 0 3 rfl rfl)))))))))))
    clear z_mn z_md hb8 D7 s7
    go_wp2_with fail
    refine hK.out _ _ (fun _ => s8) ?_
    clear hK K
    try simp only [Act.put, List.getElem_toArray, List.getElem_cons_succ, List.getElem_cons_zero, List.setIfInBounds_toArray, List.set_cons_zero, List.set_cons_succ]
    refine wpAnyL_one (i := 6) (by kernel_rfl) rfl (fun K hK => ?_)
    go_simp
    refine (rqsame (R8.z 1 rfl) (R8.z 0 rfl) (R8.z 5 rfl) (R8.z 4 rfl) (by decide) (by decide) (by decide) (by decide) (qsame_eq (by rw [Rat.div_def, Rat.one_mul, Rat.mul_inv_cancel _ H0.out]))).mono ?_; rintro e w9 ⟨rfl, hb9⟩
    have R9 := (R8.below hb9)
    have s9 := And.intro (R9.cell 4 0 rfl rfl) (And.intro (R9.cell 4 1 rfl rfl) (And.intro (R9.cell 4 2 rfl rfl) (And.intro (R9.cell 4 3 rfl rfl) (And.intro (R9.cell 1 0 rfl rfl) (And.intro (R9.cell 1 1 rfl rfl) (And.intro (R9.cell 1 2 rfl rfl) (And.intro (R9.cell 1 3 rfl rfl) (And.intro (R9.cell 0 0 rfl rfl) (And.intro (R9.cell 0 1 rfl rfl) (And.intro (R9.cell 0 2 rfl rfl) (R9.cell 0 3 rfl rfl)))))))))))
    clear hb9 R8 s8
    go_wp2_with fail
    refine hK.out _ _ (fun _ => s9) ?_
    clear hK K
    try simp only [Act.put, List.getElem_toArray, List.getElem_cons_succ, List.getElem_cons_zero, List.setIfInBounds_toArray, List.set_cons_zero, List.set_cons_succ]
    refine wpAnyL_take (i := 7) (v := ?_) rfl (by kernel_rfl) (by kernel_rfl) (by kernel_rfl) (by kernel_rfl) (by kernel_rfl) (fun _ _ _ h => h) (Or.inl ⟨by kernel_rfl, ?_⟩) s9 ?_
    rotate_left
    · rintro w' ⟨h1, h2, h3, h4, h5, h6, h7, h8, h9, h10, h11, h12⟩; go_simp; (try with_reducible rfl)
    try simp only [Act.put, List.getElem_toArray, List.getElem_cons_succ, List.getElem_cons_zero, List.setIfInBounds_toArray, List.set_cons_zero, List.set_cons_succ]
    refine wpAnyL_take (i := 8) (v := ?_) rfl (by kernel_rfl) (by kernel_rfl) (by kernel_rfl) (by kernel_rfl) (by kernel_rfl) (fun _ _ _ h => h) (Or.inl ⟨by kernel_rfl, ?_⟩) s9 ?_
    rotate_left
    · rintro w' ⟨h1, h2, h3, h4, h5, h6, h7, h8, h9, h10, h11, h12⟩; go_simp; (try with_reducible rfl)
    try simp only [Act.put, List.getElem_toArray, List.getElem_cons_succ, List.getElem_cons_zero, List.setIfInBounds_toArray, List.set_cons_zero, List.set_cons_succ]
    refine wpAnyL_done (by kernel_rfl) ?_ _
    go_wp2_with fail
    have D10 := R9.drew
    have s10 := And.intro (D10.cell 4 0 rfl rfl) (And.intro (D10.cell 4 1 rfl rfl) (And.intro (D10.cell 4 2 rfl rfl) (And.intro (D10.cell 4 3 rfl rfl) (And.intro (D10.cell 3 0 rfl rfl) (And.intro (D10.cell 3 1 rfl rfl) (And.intro (D10.cell 3 2 rfl rfl) (And.intro (D10.cell 3 3 rfl rfl) (And.intro (D10.cell 2 0 rfl rfl) (And.intro (D10.cell 2 1 rfl rfl) (And.intro (D10.cell 2 2 rfl rfl) (D10.cell 2 3 rfl rfl)))))))))))
    refine wp_region_late [] (fun w' => w'.cell? ⟨w.heap.size, 0, none⟩ = some (.bool ba) ∧ w'.cell? ⟨w.heap.size, 1, none⟩ = some (.slice Aa na ca) ∧ w'.cell? ⟨w.heap.size, 2, none⟩ = some (.bool ba') ∧ w'.cell? ⟨w.heap.size, 3, none⟩ = some (.slice Aa' na' ca') ∧ w'.cell? ⟨w.heap.size + 1, 0, none⟩ = some (.bool bb) ∧ w'.cell? ⟨w.heap.size + 1, 1, none⟩ = some (.slice Ab nb cb) ∧ w'.cell? ⟨w.heap.size + 1, 2, none⟩ = some (.bool bb') ∧ w'.cell? ⟨w.heap.size + 1, 3, none⟩ = some (.slice Ab' nb' cb') ∧ w'.cell? ⟨w.heap.size + 1 + 1, 0, none⟩ = some (.bool bc) ∧ w'.cell? ⟨w.heap.size + 1 + 1, 1, none⟩ = some (.slice Ac nc cc) ∧ w'.cell? ⟨w.heap.size + 1 + 1, 2, none⟩ = some (.bool bc') ∧ w'.cell? ⟨w.heap.size + 1 + 1, 3, none⟩ = some (.slice Ac' nc' cc')) (by kernel_rfl) ?_
    refine wpAnyL_take (i := 0) (v := ?_) rfl (by kernel_rfl) (by kernel_rfl) (by kernel_rfl) (by kernel_rfl) (by kernel_rfl) (fun _ _ _ h => h) (Or.inl ⟨by kernel_rfl, ?_⟩) s10 ?_
    rotate_left
    · rintro w' ⟨h1, h2, h3, h4, h5, h6, h7, h8, h9, h10, h11, h12⟩; go_simp; (try with_reducible rfl)
    try simp only [Act.put, List.getElem_toArray, List.getElem_cons_succ, List.getElem_cons_zero, List.setIfInBounds_toArray, List.set_cons_zero, List.set_cons_succ]
    refine wpAnyL_take (i := 1) (v := ?_) rfl (by kernel_rfl) (by kernel_rfl) (by kernel_rfl) (by kernel_rfl) (by kernel_rfl) (fun _ _ _ h => h) (Or.inl ⟨by kernel_rfl, ?_⟩) s10 ?_
    rotate_left
    · rintro w' ⟨h1, h2, h3, h4, h5, h6, h7, h8, h9, h10, h11, h12⟩; go_simp; (try with_reducible rfl)
    try simp only [Act.put, List.getElem_toArray, List.getElem_cons_succ, List.getElem_cons_zero, List.setIfInBounds_toArray, List.set_cons_zero, List.set_cons_succ]
    refine wpAnyL_take (i := 3) (v := ?_) rfl (by kernel_rfl) (by kernel_rfl) (by kernel_rfl) (by kernel_rfl) (by kernel_rfl) (fun _ _ _ h => h) (Or.inl ⟨by kernel_rfl, ?_⟩) s10 ?_
    rotate_left
    · rintro w' ⟨h1, h2, h3, h4, h5, h6, h7, h8, h9, h10, h11, h12⟩; go_simp; (try with_reducible rfl)
    try simp only [Act.put, List.getElem_toArray, List.getElem_cons_succ, List.getElem_cons_zero, List.setIfInBounds_toArray, List.set_cons_zero, List.set_cons_succ]
    refine wpAnyL_take (i := 4) (v := ?_) rfl (by kernel_rfl) (by kernel_rfl) (by kernel_rfl) (by kernel_rfl) (by kernel_rfl) (fun _ _ _ h => h) (Or.inl ⟨by kernel_rfl, ?_⟩) s10 ?_
    rotate_left
    · rintro w' ⟨h1, h2, h3, h4, h5, h6, h7, h8, h9, h10, h11, h12⟩; go_simp; (try with_reducible rfl)
    try simp only [Act.put, List.getElem_toArray, List.getElem_cons_succ, List.getElem_cons_zero, List.setIfInBounds_toArray, List.set_cons_zero, List.set_cons_succ]
    refine wpAnyL_one (i := 2) (by kernel_rfl) rfl (fun K hK => ?_)
    go_simp
    refine (qadd (k := 4) (D10.z 11 rfl) (D10.z 10 rfl) (D10.z 9 rfl) (D10.z 8 rfl) (by decide) (by decide) (by decide) (by decide) (by decide) (by decide) Ha.out Hb.out).mono ?_; rintro e w11 ⟨b_s1n, A_s1n, n_s1n, b_s1d, A_s1d, n_s1d, rfl, z_s1n, z_s1d, hb11⟩
    have R11 := (((D10.below hb11).add z_s1n).add z_s1d)
    have s11 := And.intro (R11.cell 4 0 rfl rfl) (And.intro (R11.cell 4 1 rfl rfl) (And.intro (R11.cell 4 2 rfl rfl) (And.intro (R11.cell 4 3 rfl rfl) (And.intro (R11.cell 3 0 rfl rfl) (And.intro (R11.cell 3 1 rfl rfl) (And.intro (R11.cell 3 2 rfl rfl) (And.intro (R11.cell 3 3 rfl rfl) (And.intro (R11.cell 2 0 rfl rfl) (And.intro (R11.cell 2 1 rfl rfl) (And.intro (R11.cell 2 2 rfl rfl) (R11.cell 2 3 rfl rfl)))))))))))
    clear z_s1n z_s1d hb11 D10 s10
    go_wp2_with fail
    refine hK.out _ _ (fun _ => s11) ?_
    clear hK K
    try simp only [Act.put, List.getElem_toArray, List.getElem_cons_succ, List.getElem_cons_zero, List.setIfInBounds_toArray, List.set_cons_zero, List.set_cons_succ]
    refine wpAnyL_one (i := 5) (by kernel_rfl) rfl (fun K hK => ?_)
    go_simp
    refine (qadd (k := 4) (R11.z 11 rfl) (R11.z 10 rfl) (R11.z 13 rfl) (R11.z 12 rfl) (by decide) (by decide) (by decide) (by decide) (by decide) (by decide) Hb.out Ha.out).mono ?_; rintro e w12 ⟨b_s2n, A_s2n, n_s2n, b_s2d, A_s2d, n_s2d, rfl, z_s2n, z_s2d, hb12⟩
    have R12 := (((R11.below hb12).add z_s2n).add z_s2d)
    have s12 := And.intro (R12.cell 4 0 rfl rfl) (And.intro (R12.cell 4 1 rfl rfl) (And.intro (R12.cell 4 2 rfl rfl) (And.intro (R12.cell 4 3 rfl rfl) (And.intro (R12.cell 3 0 rfl rfl) (And.intro (R12.cell 3 1 rfl rfl) (And.intro (R12.cell 3 2 rfl rfl) (And.intro (R12.cell 3 3 rfl rfl) (And.intro (R12.cell 2 0 rfl rfl) (And.intro (R12.cell 2 1 rfl rfl) (And.intro (R12.cell 2 2 rfl rfl) (R12.cell 2 3 rfl rfl)))))))))))
    clear z_s2n z_s2d hb12 R11 s11
    go_wp2_with fail
    refine hK.out _ _ (fun _ => s12) ?_
    clear hK K
    try simp only [Act.put, List.getElem_toArray, List.getElem_cons_succ, List.getElem_cons_zero, List.setIfInBounds_toArray, List.set_cons_zero, List.set_cons_succ]
    refine wpAnyL_one (i := 6) (by kernel_rfl) rfl (fun K hK => ?_)
    go_simp
    refine (rqsame (R12.z 3 rfl) (R12.z 2 rfl) (R12.z 1 rfl) (R12.z 0 rfl) (by decide) (by decide) (by decide) (by decide) (qsame_eq (Rat.add_comm ra rb))).mono ?_; rintro e w13 ⟨rfl, hb13⟩
    have R13 := (R12.below hb13)
    have s13 := And.intro (R13.cell 4 0 rfl rfl) (And.intro (R13.cell 4 1 rfl rfl) (And.intro (R13.cell 4 2 rfl rfl) (And.intro (R13.cell 4 3 rfl rfl) (And.intro (R13.cell 3 0 rfl rfl) (And.intro (R13.cell 3 1 rfl rfl) (And.intro (R13.cell 3 2 rfl rfl) (And.intro (R13.cell 3 3 rfl rfl) (And.intro (R13.cell 2 0 rfl rfl) (And.intro (R13.cell 2 1 rfl rfl) (And.intro (R13.cell 2 2 rfl rfl) (R13.cell 2 3 rfl rfl)))))))))))
    clear hb13 R12 s12
    go_wp2_with fail
    refine hK.out _ _ (fun _ => s13) ?_
    clear hK K
    try simp only [Act.put, List.getElem_toArray, List.getElem_cons_succ, List.getElem_cons_zero, List.setIfInBounds_toArray, List.set_cons_zero, List.set_cons_succ]
    refine wpAnyL_take (i := 7) (v := ?_) rfl (by kernel_rfl) (by kernel_rfl) (by kernel_rfl) (by kernel_rfl) (by kernel_rfl) (fun _ _ _ h => h) (Or.inl ⟨by kernel_rfl, ?_⟩) s13 ?_
    rotate_left
    · rintro w' ⟨h1, h2, h3, h4, h5, h6, h7, h8, h9, h10, h11, h12⟩; go_simp; (try with_reducible rfl)
    try simp only [Act.put, List.getElem_toArray, List.getElem_cons_succ, List.getElem_cons_zero, List.setIfInBounds_toArray, List.set_cons_zero, List.set_cons_succ]
    refine wpAnyL_take (i := 8) (v := ?_) rfl (by kernel_rfl) (by kernel_rfl) (by kernel_rfl) (by kernel_rfl) (by kernel_rfl) (fun _ _ _ h => h) (Or.inl ⟨by kernel_rfl, ?_⟩) s13 ?_
    rotate_left
    · rintro w' ⟨h1, h2, h3, h4, h5, h6, h7, h8, h9, h10, h11, h12⟩; go_simp; (try with_reducible rfl)
    try simp only [Act.put, List.getElem_toArray, List.getElem_cons_succ, List.getElem_cons_zero, List.setIfInBounds_toArray, List.set_cons_zero, List.set_cons_succ]
    refine wpAnyL_take (i := 9) (v := ?_) rfl (by kernel_rfl) (by kernel_rfl) (by kernel_rfl) (by kernel_rfl) (by kernel_rfl) (fun _ _ _ h => h) (Or.inl ⟨by kernel_rfl, ?_⟩) s13 ?_
    rotate_left
    · rintro w' ⟨h1, h2, h3, h4, h5, h6, h7, h8, h9, h10, h11, h12⟩; go_simp; (try with_reducible rfl)
    try simp only [Act.put, List.getElem_toArray, List.getElem_cons_succ, List.getElem_cons_zero, List.setIfInBounds_toArray, List.set_cons_zero, List.set_cons_succ]
    refine wpAnyL_take (i := 11) (v := ?_) rfl (by kernel_rfl) (by kernel_rfl) (by kernel_rfl) (by kernel_rfl) (by kernel_rfl) (fun _ _ _ h => h) (Or.inl ⟨by kernel_rfl, ?_⟩) s13 ?_
    rotate_left
    · rintro w' ⟨h1, h2, h3, h4, h5, h6, h7, h8, h9, h10, h11, h12⟩; go_simp; (try with_reducible rfl)
    try simp only [Act.put, List.getElem_toArray, List.getElem_cons_succ, List.getElem_cons_zero, List.setIfInBounds_toArray, List.set_cons_zero, List.set_cons_succ]
    refine wpAnyL_take (i := 12) (v := ?_) rfl (by kernel_rfl) (by kernel_rfl) (by kernel_rfl) (by kernel_rfl) (by kernel_rfl) (fun _ _ _ h => h) (Or.inl ⟨by kernel_rfl, ?_⟩) s13 ?_
    rotate_left
    · rintro w' ⟨h1, h2, h3, h4, h5, h6, h7, h8, h9, h10, h11, h12⟩; go_simp; (try with_reducible rfl)
    try simp only [Act.put, List.getElem_toArray, List.getElem_cons_succ, List.getElem_cons_zero, List.setIfInBounds_toArray, List.set_cons_zero, List.set_cons_succ]
    refine wpAnyL_one (i := 10) (by kernel_rfl) rfl (fun K hK => ?_)
    go_simp
    refine (qmul (k := 4) (R13.z 15 rfl) (R13.z 14 rfl) (R13.z 13 rfl) (R13.z 12 rfl) (by decide) (by decide) (by decide) (by decide) (by decide) (by decide) Ha.out Hb.out).mono ?_; rintro e w14 ⟨b_m1n, A_m1n, n_m1n, b_m1d, A_m1d, n_m1d, rfl, z_m1n, z_m1d, hb14⟩
    have R14 := (((R13.below hb14).add z_m1n).add z_m1d)
    have s14 := And.intro (R14.cell 4 0 rfl rfl) (And.intro (R14.cell 4 1 rfl rfl) (And.intro (R14.cell 4 2 rfl rfl) (And.intro (R14.cell 4 3 rfl rfl) (And.intro (R14.cell 3 0 rfl rfl) (And.intro (R14.cell 3 1 rfl rfl) (And.intro (R14.cell 3 2 rfl rfl) (And.intro (R14.cell 3 3 rfl rfl) (And.intro (R14.cell 2 0 rfl rfl) (And.intro (R14.cell 2 1 rfl rfl) (And.intro (R14.cell 2 2 rfl rfl) (R14.cell 2 3 rfl rfl)))))))))))
    clear z_m1n z_m1d hb14 R13 s13
    go_wp2_with fail
    refine hK.out _ _ (fun _ => s14) ?_
    clear hK K
    try simp only [Act.put, List.getElem_toArray, List.getElem_cons_succ, List.getElem_cons_zero, List.setIfInBounds_toArray, List.set_cons_zero, List.set_cons_succ]
    refine wpAnyL_one (i := 13) (by kernel_rfl) rfl (fun K hK => ?_)
    go_simp
    refine (qmul (k := 4) (R14.z 15 rfl) (R14.z 14 rfl) (R14.z 17 rfl) (R14.z 16 rfl) (by decide) (by decide) (by decide) (by decide) (by decide) (by decide) Hb.out Ha.out).mono ?_; rintro e w15 ⟨b_m2n, A_m2n, n_m2n, b_m2d, A_m2d, n_m2d, rfl, z_m2n, z_m2d, hb15⟩
    have R15 := (((R14.below hb15).add z_m2n).add z_m2d)
    have s15 := And.intro (R15.cell 4 0 rfl rfl) (And.intro (R15.cell 4 1 rfl rfl) (And.intro (R15.cell 4 2 rfl rfl) (And.intro (R15.cell 4 3 rfl rfl) (And.intro (R15.cell 3 0 rfl rfl) (And.intro (R15.cell 3 1 rfl rfl) (And.intro (R15.cell 3 2 rfl rfl) (And.intro (R15.cell 3 3 rfl rfl) (And.intro (R15.cell 2 0 rfl rfl) (And.intro (R15.cell 2 1 rfl rfl) (And.intro (R15.cell 2 2 rfl rfl) (R15.cell 2 3 rfl rfl)))))))))))
    clear z_m2n z_m2d hb15 R14 s14
    go_wp2_with fail
    refine hK.out _ _ (fun _ => s15) ?_
    clear hK K
    try simp only [Act.put, List.getElem_toArray, List.getElem_cons_succ, List.getElem_cons_zero, List.setIfInBounds_toArray, List.set_cons_zero, List.set_cons_succ]
    refine wpAnyL_one (i := 14) (by kernel_rfl) rfl (fun K hK => ?_)
    go_simp
    refine (rqsame (R15.z 3 rfl) (R15.z 2 rfl) (R15.z 1 rfl) (R15.z 0 rfl) (by decide) (by decide) (by decide) (by decide) (qsame_eq (Rat.mul_comm ra rb))).mono ?_; rintro e w16 ⟨rfl, hb16⟩
    have R16 := (R15.below hb16)
    have s16 := And.intro (R16.cell 4 0 rfl rfl) (And.intro (R16.cell 4 1 rfl rfl) (And.intro (R16.cell 4 2 rfl rfl) (And.intro (R16.cell 4 3 rfl rfl) (And.intro (R16.cell 3 0 rfl rfl) (And.intro (R16.cell 3 1 rfl rfl) (And.intro (R16.cell 3 2 rfl rfl) (And.intro (R16.cell 3 3 rfl rfl) (And.intro (R16.cell 2 0 rfl rfl) (And.intro (R16.cell 2 1 rfl rfl) (And.intro (R16.cell 2 2 rfl rfl) (R16.cell 2 3 rfl rfl)))))))))))
    clear hb16 R15 s15
    go_wp2_with fail
    refine hK.out _ _ (fun _ => s16) ?_
    clear hK K
    try simp only [Act.put, List.getElem_toArray, List.getElem_cons_succ, List.getElem_cons_zero, List.setIfInBounds_toArray, List.set_cons_zero, List.set_cons_succ]
    refine wpAnyL_take (i := 15) (v := ?_) rfl (by kernel_rfl) (by kernel_rfl) (by kernel_rfl) (by kernel_rfl) (by kernel_rfl) (fun _ _ _ h => h) (Or.inl ⟨by kernel_rfl, ?_⟩) s16 ?_
    rotate_left
    · rintro w' ⟨h1, h2, h3, h4, h5, h6, h7, h8, h9, h10, h11, h12⟩; go_simp; (try with_reducible rfl)
    try simp only [Act.put, List.getElem_toArray, List.getElem_cons_succ, List.getElem_cons_zero, List.setIfInBounds_toArray, List.set_cons_zero, List.set_cons_succ]
    refine wpAnyL_take (i := 16) (v := ?_) rfl (by kernel_rfl) (by kernel_rfl) (by kernel_rfl) (by kernel_rfl) (by kernel_rfl) (fun _ _ _ h => h) (Or.inl ⟨by kernel_rfl, ?_⟩) s16 ?_
    rotate_left
    · rintro w' ⟨h1, h2, h3, h4, h5, h6, h7, h8, h9, h10, h11, h12⟩; go_simp; (try with_reducible rfl)
    try simp only [Act.put, List.getElem_toArray, List.getElem_cons_succ, List.getElem_cons_zero, List.setIfInBounds_toArray, List.set_cons_zero, List.set_cons_succ]
    refine wpAnyL_take (i := 17) (v := ?_) rfl (by kernel_rfl) (by kernel_rfl) (by kernel_rfl) (by kernel_rfl) (by kernel_rfl) (fun _ _ _ h => h) (Or.inl ⟨by kernel_rfl, ?_⟩) s16 ?_
    rotate_left
    · rintro w' ⟨h1, h2, h3, h4, h5, h6, h7, h8, h9, h10, h11, h12⟩; go_simp; (try with_reducible rfl)
    try simp only [Act.put, List.getElem_toArray, List.getElem_cons_succ, List.getElem_cons_zero, List.setIfInBounds_toArray, List.set_cons_zero, List.set_cons_succ]
    refine wpAnyL_take (i := 18) (v := ?_) rfl (by kernel_rfl) (by kernel_rfl) (by kernel_rfl) (by kernel_rfl) (by kernel_rfl) (fun _ _ _ h => h) (Or.inl ⟨by kernel_rfl, ?_⟩) s16 ?_
    rotate_left
    · rintro w' ⟨h1, h2, h3, h4, h5, h6, h7, h8, h9, h10, h11, h12⟩; go_simp; (try with_reducible rfl)
    try simp only [Act.put, List.getElem_toArray, List.getElem_cons_succ, List.getElem_cons_zero, List.setIfInBounds_toArray, List.set_cons_zero, List.set_cons_succ]
    refine wpAnyL_take (i := 20) (v := ?_) rfl (by kernel_rfl) (by kernel_rfl) (by kernel_rfl) (by kernel_rfl) (by kernel_rfl) (fun _ _ _ h => h) (Or.inl ⟨by kernel_rfl, ?_⟩) s16 ?_
    rotate_left
    · rintro w' ⟨h1, h2, h3, h4, h5, h6, h7, h8, h9, h10, h11, h12⟩; go_simp; (try with_reducible rfl)
    try simp only [Act.put, List.getElem_toArray, List.getElem_cons_succ, List.getElem_cons_zero, List.setIfInBounds_toArray, List.set_cons_zero, List.set_cons_succ]
    refine wpAnyL_take (i := 22) (v := ?_) rfl (by kernel_rfl) (by kernel_rfl) (by kernel_rfl) (by kernel_rfl) (by kernel_rfl) (fun _ _ _ h => h) (Or.inl ⟨by kernel_rfl, ?_⟩) s16 ?_
    rotate_left
    · rintro w' ⟨h1, h2, h3, h4, h5, h6, h7, h8, h9, h10, h11, h12⟩; go_simp; (try with_reducible rfl)
    try simp only [Act.put, List.getElem_toArray, List.getElem_cons_succ, List.getElem_cons_zero, List.setIfInBounds_toArray, List.set_cons_zero, List.set_cons_succ]
    refine wpAnyL_take (i := 23) (v := ?_) rfl (by kernel_rfl) (by kernel_rfl) (by kernel_rfl) (by kernel_rfl) (by kernel_rfl) (fun _ _ _ h => h) (Or.inl ⟨by kernel_rfl, ?_⟩) s16 ?_
    rotate_left
    · rintro w' ⟨h1, h2, h3, h4, h5, h6, h7, h8, h9, h10, h11, h12⟩; go_simp; (try with_reducible rfl)
    try simp only [Act.put, List.getElem_toArray, List.getElem_cons_succ, List.getElem_cons_zero, List.setIfInBounds_toArray, List.set_cons_zero, List.set_cons_succ]
    refine wpAnyL_take (i := 24) (v := ?_) rfl (by kernel_rfl) (by kernel_rfl) (by kernel_rfl) (by kernel_rfl) (by kernel_rfl) (fun _ _ _ h => h) (Or.inl ⟨by kernel_rfl, ?_⟩) s16 ?_
    rotate_left
    · rintro w' ⟨h1, h2, h3, h4, h5, h6, h7, h8, h9, h10, h11, h12⟩; go_simp; (try with_reducible rfl)
    try simp only [Act.put, List.getElem_toArray, List.getElem_cons_succ, List.getElem_cons_zero, List.setIfInBounds_toArray, List.set_cons_zero, List.set_cons_succ]
    refine wpAnyL_one (i := 19) (by kernel_rfl) rfl (fun K hK => ?_)
    go_simp
    refine (qadd (k := 4) (R16.z 19 rfl) (R16.z 18 rfl) (R16.z 17 rfl) (R16.z 16 rfl) (by decide) (by decide) (by decide) (by decide) (by decide) (by decide) Ha.out Hb.out).mono ?_; rintro e w17 ⟨b_t1n, A_t1n, n_t1n, b_t1d, A_t1d, n_t1d, rfl, z_t1n, z_t1d, hb17⟩
    have R17 := (((R16.below hb17).add z_t1n).add z_t1d)
    have s17 := And.intro (R17.cell 4 0 rfl rfl) (And.intro (R17.cell 4 1 rfl rfl) (And.intro (R17.cell 4 2 rfl rfl) (And.intro (R17.cell 4 3 rfl rfl) (And.intro (R17.cell 3 0 rfl rfl) (And.intro (R17.cell 3 1 rfl rfl) (And.intro (R17.cell 3 2 rfl rfl) (And.intro (R17.cell 3 3 rfl rfl) (And.intro (R17.cell 2 0 rfl rfl) (And.intro (R17.cell 2 1 rfl rfl) (And.intro (R17.cell 2 2 rfl rfl) (R17.cell 2 3 rfl rfl)))))))))))
    clear z_t1n z_t1d hb17 R16 s16
    go_wp2_with fail
    refine hK.out _ _ (fun _ => s17) ?_
    clear hK K
    try simp only [Act.put, List.getElem_toArray, List.getElem_cons_succ, List.getElem_cons_zero, List.setIfInBounds_toArray, List.set_cons_zero, List.set_cons_succ]
    refine wpAnyL_one (i := 21) (by kernel_rfl) rfl (fun K hK => ?_)
    go_simp
    refine (qadd (k := 9) (R17.z 1 rfl) (R17.z 0 rfl) (R17.z 17 rfl) (R17.z 16 rfl) (by decide) (by decide) (by decide) (by decide) (by decide) (by decide) (qv_self ((ra + rb))) Hc.out).mono ?_; rintro e w18 ⟨b_t2n, A_t2n, n_t2n, b_t2d, A_t2d, n_t2d, rfl, z_t2n, z_t2d, hb18⟩
    have R18 := (((R17.below hb18).add z_t2n).add z_t2d)
    have s18 := And.intro (R18.cell 4 0 rfl rfl) (And.intro (R18.cell 4 1 rfl rfl) (And.intro (R18.cell 4 2 rfl rfl) (And.intro (R18.cell 4 3 rfl rfl) (And.intro (R18.cell 3 0 rfl rfl) (And.intro (R18.cell 3 1 rfl rfl) (And.intro (R18.cell 3 2 rfl rfl) (And.intro (R18.cell 3 3 rfl rfl) (And.intro (R18.cell 2 0 rfl rfl) (And.intro (R18.cell 2 1 rfl rfl) (And.intro (R18.cell 2 2 rfl rfl) (R18.cell 2 3 rfl rfl)))))))))))
    clear z_t2n z_t2d hb18 R17 s17
    go_wp2_with fail
    refine hK.out _ _ (fun _ => s18) ?_
    clear hK K
    try simp only [Act.put, List.getElem_toArray, List.getElem_cons_succ, List.getElem_cons_zero, List.setIfInBounds_toArray, List.set_cons_zero, List.set_cons_succ]
    refine wpAnyL_one (i := 25) (by kernel_rfl) rfl (fun K hK => ?_)
    go_simp
    refine (qadd (k := 4) (R18.z 21 rfl) (R18.z 20 rfl) (R18.z 19 rfl) (R18.z 18 rfl) (by decide) (by decide) (by decide) (by decide) (by decide) (by decide) Hb.out Hc.out).mono ?_; rintro e w19 ⟨b_t3n, A_t3n, n_t3n, b_t3d, A_t3d, n_t3d, rfl, z_t3n, z_t3d, hb19⟩
    have R19 := (((R18.below hb19).add z_t3n).add z_t3d)
    have s19 := And.intro (R19.cell 4 0 rfl rfl) (And.intro (R19.cell 4 1 rfl rfl) (And.intro (R19.cell 4 2 rfl rfl) (And.intro (R19.cell 4 3 rfl rfl) (And.intro (R19.cell 3 0 rfl rfl) (And.intro (R19.cell 3 1 rfl rfl) (And.intro (R19.cell 3 2 rfl rfl) (And.intro (R19.cell 3 3 rfl rfl) (And.intro (R19.cell 2 0 rfl rfl) (And.intro (R19.cell 2 1 rfl rfl) (And.intro (R19.cell 2 2 rfl rfl) (R19.cell 2 3 rfl rfl)))))))))))
    clear z_t3n z_t3d hb19 R18 s18
    go_wp2_with fail
    refine hK.out _ _ (fun _ => s19) ?_
    clear hK K
    try simp only [Act.put, List.getElem_toArray, List.getElem_cons_succ, List.getElem_cons_zero, List.setIfInBounds_toArray, List.set_cons_zero, List.set_cons_succ]
    refine wpAnyL_one (i := 26) (by kernel_rfl) rfl (fun K hK => ?_)
    go_simp
    refine (qadd (k := 9) (R19.z 25 rfl) (R19.z 24 rfl) (R19.z 1 rfl) (R19.z 0 rfl) (by decide) (by decide) (by decide) (by decide) (by decide) (by decide) Ha.out (qv_self ((rb + rc)))).mono ?_; rintro e w20 ⟨b_t4n, A_t4n, n_t4n, b_t4d, A_t4d, n_t4d, rfl, z_t4n, z_t4d, hb20⟩
    have R20 := (((R19.below hb20).add z_t4n).add z_t4d)
    have s20 := And.intro (R20.cell 4 0 rfl rfl) (And.intro (R20.cell 4 1 rfl rfl) (And.intro (R20.cell 4 2 rfl rfl) (And.intro (R20.cell 4 3 rfl rfl) (And.intro (R20.cell 3 0 rfl rfl) (And.intro (R20.cell 3 1 rfl rfl) (And.intro (R20.cell 3 2 rfl rfl) (And.intro (R20.cell 3 3 rfl rfl) (And.intro (R20.cell 2 0 rfl rfl) (And.intro (R20.cell 2 1 rfl rfl) (And.intro (R20.cell 2 2 rfl rfl) (R20.cell 2 3 rfl rfl)))))))))))
    clear z_t4n z_t4d hb20 R19 s19
    go_wp2_with fail
    refine hK.out _ _ (fun _ => s20) ?_
    clear hK K
    try simp only [Act.put, List.getElem_toArray, List.getElem_cons_succ, List.getElem_cons_zero, List.setIfInBounds_toArray, List.set_cons_zero, List.set_cons_succ]
    refine wpAnyL_one (i := 27) (by kernel_rfl) rfl (fun K hK => ?_)
    go_simp
    refine (rqsame (R20.z 5 rfl) (R20.z 4 rfl) (R20.z 1 rfl) (R20.z 0 rfl) (by decide) (by decide) (by decide) (by decide) (qsame_eq (Rat.add_assoc ra rb rc))).mono ?_; rintro e w21 ⟨rfl, hb21⟩
    have R21 := (R20.below hb21)
    have s21 := And.intro (R21.cell 4 0 rfl rfl) (And.intro (R21.cell 4 1 rfl rfl) (And.intro (R21.cell 4 2 rfl rfl) (And.intro (R21.cell 4 3 rfl rfl) (And.intro (R21.cell 3 0 rfl rfl) (And.intro (R21.cell 3 1 rfl rfl) (And.intro (R21.cell 3 2 rfl rfl) (And.intro (R21.cell 3 3 rfl rfl) (And.intro (R21.cell 2 0 rfl rfl) (And.intro (R21.cell 2 1 rfl rfl) (And.intro (R21.cell 2 2 rfl rfl) (R21.cell 2 3 rfl rfl)))))))))))
    clear hb21 R20 s20
    go_wp2_with fail
    refine hK.out _ _ (fun _ => s21) ?_
    clear hK K
    try simp only [Act.put, List.getElem_toArray, List.getElem_cons_succ, List.getElem_cons_zero, List.setIfInBounds_toArray, List.set_cons_zero, List.set_cons_succ]
    refine wpAnyL_take (i := 28) (v := ?_) rfl (by kernel_rfl) (by kernel_rfl) (by kernel_rfl) (by kernel_rfl) (by kernel_rfl) (fun _ _ _ h => h) (Or.inl ⟨by kernel_rfl, ?_⟩) s21 ?_
    rotate_left
    · rintro w' ⟨h1, h2, h3, h4, h5, h6, h7, h8, h9, h10, h11, h12⟩; go_simp; (try with_reducible rfl)
    try simp only [Act.put, List.getElem_toArray, List.getElem_cons_succ, List.getElem_cons_zero, List.setIfInBounds_toArray, List.set_cons_zero, List.set_cons_succ]
    refine wpAnyL_take (i := 29) (v := ?_) rfl (by kernel_rfl) (by kernel_rfl) (by kernel_rfl) (by kernel_rfl) (by kernel_rfl) (fun _ _ _ h => h) (Or.inl ⟨by kernel_rfl, ?_⟩) s21 ?_
    rotate_left
    · rintro w' ⟨h1, h2, h3, h4, h5, h6, h7, h8, h9, h10, h11, h12⟩; go_simp; (try with_reducible rfl)
    try simp only [Act.put, List.getElem_toArray, List.getElem_cons_succ, List.getElem_cons_zero, List.setIfInBounds_toArray, List.set_cons_zero, List.set_cons_succ]
    refine wpAnyL_take (i := 30) (v := ?_) rfl (by kernel_rfl) (by kernel_rfl) (by kernel_rfl) (by kernel_rfl) (by kernel_rfl) (fun _ _ _ h => h) (Or.inl ⟨by kernel_rfl, ?_⟩) s21 ?_
    rotate_left
    · rintro w' ⟨h1, h2, h3, h4, h5, h6, h7, h8, h9, h10, h11, h12⟩; go_simp; (try with_reducible rfl)
    try simp only [Act.put, List.getElem_toArray, List.getElem_cons_succ, List.getElem_cons_zero, List.setIfInBounds_toArray, List.set_cons_zero, List.set_cons_succ]
    refine wpAnyL_take (i := 31) (v := ?_) rfl (by kernel_rfl) (by kernel_rfl) (by kernel_rfl) (by kernel_rfl) (by kernel_rfl) (fun _ _ _ h => h) (Or.inl ⟨by kernel_rfl, ?_⟩) s21 ?_
    rotate_left
    · rintro w' ⟨h1, h2, h3, h4, h5, h6, h7, h8, h9, h10, h11, h12⟩; go_simp; (try with_reducible rfl)
    try simp only [Act.put, List.getElem_toArray, List.getElem_cons_succ, List.getElem_cons_zero, List.setIfInBounds_toArray, List.set_cons_zero, List.set_cons_succ]
    refine wpAnyL_take (i := 33) (v := ?_) rfl (by kernel_rfl) (by kernel_rfl) (by kernel_rfl) (by kernel_rfl) (by kernel_rfl) (fun _ _ _ h => h) (Or.inl ⟨by kernel_rfl, ?_⟩) s21 ?_
    rotate_left
    · rintro w' ⟨h1, h2, h3, h4, h5, h6, h7, h8, h9, h10, h11, h12⟩; go_simp; (try with_reducible rfl)
    try simp only [Act.put, List.getElem_toArray, List.getElem_cons_succ, List.getElem_cons_zero, List.setIfInBounds_toArray, List.set_cons_zero, List.set_cons_succ]
    refine wpAnyL_take (i := 35) (v := ?_) rfl (by kernel_rfl) (by kernel_rfl) (by kernel_rfl) (by kernel_rfl) (by kernel_rfl) (fun _ _ _ h => h) (Or.inl ⟨by kernel_rfl, ?_⟩) s21 ?_
    rotate_left
    · rintro w' ⟨h1, h2, h3, h4, h5, h6, h7, h8, h9, h10, h11, h12⟩; go_simp; (try with_reducible rfl)
    try simp only [Act.put, List.getElem_toArray, List.getElem_cons_succ, List.getElem_cons_zero, List.setIfInBounds_toArray, List.set_cons_zero, List.set_cons_succ]
    refine wpAnyL_take (i := 36) (v := ?_) rfl (by kernel_rfl) (by kernel_rfl) (by kernel_rfl) (by kernel_rfl) (by kernel_rfl) (fun _ _ _ h => h) (Or.inl ⟨by kernel_rfl, ?_⟩) s21 ?_
    rotate_left
    · rintro w' ⟨h1, h2, h3, h4, h5, h6, h7, h8, h9, h10, h11, h12⟩; go_simp; (try with_reducible rfl)
    try simp only [Act.put, List.getElem_toArray, List.getElem_cons_succ, List.getElem_cons_zero, List.setIfInBounds_toArray, List.set_cons_zero, List.set_cons_succ]
    refine wpAnyL_take (i := 37) (v := ?_) rfl (by kernel_rfl) (by kernel_rfl) (by kernel_rfl) (by kernel_rfl) (by kernel_rfl) (fun _ _ _ h => h) (Or.inl ⟨by kernel_rfl, ?_⟩) s21 ?_
    rotate_left
    · rintro w' ⟨h1, h2, h3, h4, h5, h6, h7, h8, h9, h10, h11, h12⟩; go_simp; (try with_reducible rfl)
    try simp only [Act.put, List.getElem_toArray, List.getElem_cons_succ, List.getElem_cons_zero, List.setIfInBounds_toArray, List.set_cons_zero, List.set_cons_succ]
    refine wpAnyL_one (i := 32) (by kernel_rfl) rfl (fun K hK => ?_)
    go_simp
    refine (qmul (k := 4) (R21.z 27 rfl) (R21.z 26 rfl) (R21.z 25 rfl) (R21.z 24 rfl) (by decide) (by decide) (by decide) (by decide) (by decide) (by decide) Ha.out Hb.out).mono ?_; rintro e w22 ⟨b_u1n, A_u1n, n_u1n, b_u1d, A_u1d, n_u1d, rfl, z_u1n, z_u1d, hb22⟩
    have R22 := (((R21.below hb22).add z_u1n).add z_u1d)
    have s22 := And.intro (R22.cell 4 0 rfl rfl) (And.intro (R22.cell 4 1 rfl rfl) (And.intro (R22.cell 4 2 rfl rfl) (And.intro (R22.cell 4 3 rfl rfl) (And.intro (R22.cell 3 0 rfl rfl) (And.intro (R22.cell 3 1 rfl rfl) (And.intro (R22.cell 3 2 rfl rfl) (And.intro (R22.cell 3 3 rfl rfl) (And.intro (R22.cell 2 0 rfl rfl) (And.intro (R22.cell 2 1 rfl rfl) (And.intro (R22.cell 2 2 rfl rfl) (R22.cell 2 3 rfl rfl)))))))))))
    clear z_u1n z_u1d hb22 R21 s21
    go_wp2_with fail
    refine hK.out _ _ (fun _ => s22) ?_
    clear hK K
    try simp only [Act.put, List.getElem_toArray, List.getElem_cons_succ, List.getElem_cons_zero, List.setIfInBounds_toArray, List.set_cons_zero, List.set_cons_succ]
    refine wpAnyL_one (i := 34) (by kernel_rfl) rfl (fun K hK => ?_)
    go_simp
    refine (qmul (k := 8) (R22.z 1 rfl) (R22.z 0 rfl) (R22.z 25 rfl) (R22.z 24 rfl) (by decide) (by decide) (by decide) (by decide) (by decide) (by decide) (qv_self ((ra * rb))) Hc.out).mono ?_; rintro e w23 ⟨b_u2n, A_u2n, n_u2n, b_u2d, A_u2d, n_u2d, rfl, z_u2n, z_u2d, hb23⟩
    have R23 := (((R22.below hb23).add z_u2n).add z_u2d)
    have s23 := And.intro (R23.cell 4 0 rfl rfl) (And.intro (R23.cell 4 1 rfl rfl) (And.intro (R23.cell 4 2 rfl rfl) (And.intro (R23.cell 4 3 rfl rfl) (And.intro (R23.cell 3 0 rfl rfl) (And.intro (R23.cell 3 1 rfl rfl) (And.intro (R23.cell 3 2 rfl rfl) (And.intro (R23.cell 3 3 rfl rfl) (And.intro (R23.cell 2 0 rfl rfl) (And.intro (R23.cell 2 1 rfl rfl) (And.intro (R23.cell 2 2 rfl rfl) (R23.cell 2 3 rfl rfl)))))))))))
    clear z_u2n z_u2d hb23 R22 s22
    go_wp2_with fail
    refine hK.out _ _ (fun _ => s23) ?_
    clear hK K
    try simp only [Act.put, List.getElem_toArray, List.getElem_cons_succ, List.getElem_cons_zero, List.setIfInBounds_toArray, List.set_cons_zero, List.set_cons_succ]
    refine wpAnyL_one (i := 38) (by kernel_rfl) rfl (fun K hK => ?_)
    go_simp
    refine (qmul (k := 4) (R23.z 29 rfl) (R23.z 28 rfl) (R23.z 27 rfl) (R23.z 26 rfl) (by decide) (by decide) (by decide) (by decide) (by decide) (by decide) Hb.out Hc.out).mono ?_; rintro e w24 ⟨b_u3n, A_u3n, n_u3n, b_u3d, A_u3d, n_u3d, rfl, z_u3n, z_u3d, hb24⟩
    have R24 := (((R23.below hb24).add z_u3n).add z_u3d)
    have s24 := And.intro (R24.cell 4 0 rfl rfl) (And.intro (R24.cell 4 1 rfl rfl) (And.intro (R24.cell 4 2 rfl rfl) (And.intro (R24.cell 4 3 rfl rfl) (And.intro (R24.cell 3 0 rfl rfl) (And.intro (R24.cell 3 1 rfl rfl) (And.intro (R24.cell 3 2 rfl rfl) (And.intro (R24.cell 3 3 rfl rfl) (And.intro (R24.cell 2 0 rfl rfl) (And.intro (R24.cell 2 1 rfl rfl) (And.intro (R24.cell 2 2 rfl rfl) (R24.cell 2 3 rfl rfl)))))))))))
    clear z_u3n z_u3d hb24 R23 s23
    go_wp2_with fail
    refine hK.out _ _ (fun _ => s24) ?_
    clear hK K
    try simp only [Act.put, List.getElem_toArray, List.getElem_cons_succ, List.getElem_cons_zero, List.setIfInBounds_toArray, List.set_cons_zero, List.set_cons_succ]
    refine wpAnyL_one (i := 39) (by kernel_rfl) rfl (fun K hK => ?_)
    go_simp
    refine (qmul (k := 8) (R24.z 33 rfl) (R24.z 32 rfl) (R24.z 1 rfl) (R24.z 0 rfl) (by decide) (by decide) (by decide) (by decide) (by decide) (by decide) Ha.out (qv_self ((rb * rc)))).mono ?_; rintro e w25 ⟨b_u4n, A_u4n, n_u4n, b_u4d, A_u4d, n_u4d, rfl, z_u4n, z_u4d, hb25⟩
    have R25 := (((R24.below hb25).add z_u4n).add z_u4d)
    have s25 := And.intro (R25.cell 4 0 rfl rfl) (And.intro (R25.cell 4 1 rfl rfl) (And.intro (R25.cell 4 2 rfl rfl) (And.intro (R25.cell 4 3 rfl rfl) (And.intro (R25.cell 3 0 rfl rfl) (And.intro (R25.cell 3 1 rfl rfl) (And.intro (R25.cell 3 2 rfl rfl) (And.intro (R25.cell 3 3 rfl rfl) (And.intro (R25.cell 2 0 rfl rfl) (And.intro (R25.cell 2 1 rfl rfl) (And.intro (R25.cell 2 2 rfl rfl) (R25.cell 2 3 rfl rfl)))))))))))
    clear z_u4n z_u4d hb25 R24 s24
    go_wp2_with fail
    refine hK.out _ _ (fun _ => s25) ?_
    clear hK K
    try simp only [Act.put, List.getElem_toArray, List.getElem_cons_succ, List.getElem_cons_zero, List.setIfInBounds_toArray, List.set_cons_zero, List.set_cons_succ]
    refine wpAnyL_one (i := 40) (by kernel_rfl) rfl (fun K hK => ?_)
    go_simp
    refine (rqsame (R25.z 5 rfl) (R25.z 4 rfl) (R25.z 1 rfl) (R25.z 0 rfl) (by decide) (by decide) (by decide) (by decide) (qsame_eq (Rat.mul_assoc ra rb rc))).mono ?_; rintro e w26 ⟨rfl, hb26⟩
    have R26 := (R25.below hb26)
    have s26 := And.intro (R26.cell 4 0 rfl rfl) (And.intro (R26.cell 4 1 rfl rfl) (And.intro (R26.cell 4 2 rfl rfl) (And.intro (R26.cell 4 3 rfl rfl) (And.intro (R26.cell 3 0 rfl rfl) (And.intro (R26.cell 3 1 rfl rfl) (And.intro (R26.cell 3 2 rfl rfl) (And.intro (R26.cell 3 3 rfl rfl) (And.intro (R26.cell 2 0 rfl rfl) (And.intro (R26.cell 2 1 rfl rfl) (And.intro (R26.cell 2 2 rfl rfl) (R26.cell 2 3 rfl rfl)))))))))))
    clear hb26 R25 s25
    go_wp2_with fail
    refine hK.out _ _ (fun _ => s26) ?_
    clear hK K
    try simp only [Act.put, List.getElem_toArray, List.getElem_cons_succ, List.getElem_cons_zero, List.setIfInBounds_toArray, List.set_cons_zero, List.set_cons_succ]
    refine wpAnyL_take (i := 41) (v := ?_) rfl (by kernel_rfl) (by kernel_rfl) (by kernel_rfl) (by kernel_rfl) (by kernel_rfl) (fun _ _ _ h => h) (Or.inl ⟨by kernel_rfl, ?_⟩) s26 ?_
    rotate_left
    · rintro w' ⟨h1, h2, h3, h4, h5, h6, h7, h8, h9, h10, h11, h12⟩; go_simp; (try with_reducible rfl)
    try simp only [Act.put, List.getElem_toArray, List.getElem_cons_succ, List.getElem_cons_zero, List.setIfInBounds_toArray, List.set_cons_zero, List.set_cons_succ]
    refine wpAnyL_take (i := 42) (v := ?_) rfl (by kernel_rfl) (by kernel_rfl) (by kernel_rfl) (by kernel_rfl) (by kernel_rfl) (fun _ _ _ h => h) (Or.inl ⟨by kernel_rfl, ?_⟩) s26 ?_
    rotate_left
    · rintro w' ⟨h1, h2, h3, h4, h5, h6, h7, h8, h9, h10, h11, h12⟩; go_simp; (try with_reducible rfl)
    try simp only [Act.put, List.getElem_toArray, List.getElem_cons_succ, List.getElem_cons_zero, List.setIfInBounds_toArray, List.set_cons_zero, List.set_cons_succ]
    refine wpAnyL_take (i := 43) (v := ?_) rfl (by kernel_rfl) (by kernel_rfl) (by kernel_rfl) (by kernel_rfl) (by kernel_rfl) (fun _ _ _ h => h) (Or.inl ⟨by kernel_rfl, ?_⟩) s26 ?_
    rotate_left
    · rintro w' ⟨h1, h2, h3, h4, h5, h6, h7, h8, h9, h10, h11, h12⟩; go_simp; (try with_reducible rfl)
    try simp only [Act.put, List.getElem_toArray, List.getElem_cons_succ, List.getElem_cons_zero, List.setIfInBounds_toArray, List.set_cons_zero, List.set_cons_succ]
    refine wpAnyL_take (i := 44) (v := ?_) rfl (by kernel_rfl) (by kernel_rfl) (by kernel_rfl) (by kernel_rfl) (by kernel_rfl) (fun _ _ _ h => h) (Or.inl ⟨by kernel_rfl, ?_⟩) s26 ?_
    rotate_left
    · rintro w' ⟨h1, h2, h3, h4, h5, h6, h7, h8, h9, h10, h11, h12⟩; go_simp; (try with_reducible rfl)
    try simp only [Act.put, List.getElem_toArray, List.getElem_cons_succ, List.getElem_cons_zero, List.setIfInBounds_toArray, List.set_cons_zero, List.set_cons_succ]
    refine wpAnyL_take (i := 45) (v := ?_) rfl (by kernel_rfl) (by kernel_rfl) (by kernel_rfl) (by kernel_rfl) (by kernel_rfl) (fun _ _ _ h => h) (Or.inl ⟨by kernel_rfl, ?_⟩) s26 ?_
    rotate_left
    · rintro w' ⟨h1, h2, h3, h4, h5, h6, h7, h8, h9, h10, h11, h12⟩; go_simp; (try with_reducible rfl)
    try simp only [Act.put, List.getElem_toArray, List.getElem_cons_succ, List.getElem_cons_zero, List.setIfInBounds_toArray, List.set_cons_zero, List.set_cons_succ]
    refine wpAnyL_take (i := 48) (v := ?_) rfl (by kernel_rfl) (by kernel_rfl) (by kernel_rfl) (by kernel_rfl) (by kernel_rfl) (fun _ _ _ h => h) (Or.inl ⟨by kernel_rfl, ?_⟩) s26 ?_
    rotate_left
    · rintro w' ⟨h1, h2, h3, h4, h5, h6, h7, h8, h9, h10, h11, h12⟩; go_simp; (try with_reducible rfl)
    try simp only [Act.put, List.getElem_toArray, List.getElem_cons_succ, List.getElem_cons_zero, List.setIfInBounds_toArray, List.set_cons_zero, List.set_cons_succ]
    refine wpAnyL_take (i := 49) (v := ?_) rfl (by kernel_rfl) (by kernel_rfl) (by kernel_rfl) (by kernel_rfl) (by kernel_rfl) (fun _ _ _ h => h) (Or.inl ⟨by kernel_rfl, ?_⟩) s26 ?_
    rotate_left
    · rintro w' ⟨h1, h2, h3, h4, h5, h6, h7, h8, h9, h10, h11, h12⟩; go_simp; (try with_reducible rfl)
    try simp only [Act.put, List.getElem_toArray, List.getElem_cons_succ, List.getElem_cons_zero, List.setIfInBounds_toArray, List.set_cons_zero, List.set_cons_succ]
    refine wpAnyL_take (i := 51) (v := ?_) rfl (by kernel_rfl) (by kernel_rfl) (by kernel_rfl) (by kernel_rfl) (by kernel_rfl) (fun _ _ _ h => h) (Or.inl ⟨by kernel_rfl, ?_⟩) s26 ?_
    rotate_left
    · rintro w' ⟨h1, h2, h3, h4, h5, h6, h7, h8, h9, h10, h11, h12⟩; go_simp; (try with_reducible rfl)
    try simp only [Act.put, List.getElem_toArray, List.getElem_cons_succ, List.getElem_cons_zero, List.setIfInBounds_toArray, List.set_cons_zero, List.set_cons_succ]
    refine wpAnyL_take (i := 52) (v := ?_) rfl (by kernel_rfl) (by kernel_rfl) (by kernel_rfl) (by kernel_rfl) (by kernel_rfl) (fun _ _ _ h => h) (Or.inl ⟨by kernel_rfl, ?_⟩) s26 ?_
    rotate_left
    · rintro w' ⟨h1, h2, h3, h4, h5, h6, h7, h8, h9, h10, h11, h12⟩; go_simp; (try with_reducible rfl)
    try simp only [Act.put, List.getElem_toArray, List.getElem_cons_succ, List.getElem_cons_zero, List.setIfInBounds_toArray, List.set_cons_zero, List.set_cons_succ]
    refine wpAnyL_one (i := 46) (by kernel_rfl) rfl (fun K hK => ?_)
    go_simp
    refine (qadd (k := 4) (R26.z 33 rfl) (R26.z 32 rfl) (R26.z 31 rfl) (R26.z 30 rfl) (by decide) (by decide) (by decide) (by decide) (by decide) (by decide) Hb.out Hc.out).mono ?_; rintro e w27 ⟨b_v1n, A_v1n, n_v1n, b_v1d, A_v1d, n_v1d, rfl, z_v1n, z_v1d, hb27⟩
    have R27 := (((R26.below hb27).add z_v1n).add z_v1d)
    have s27 := And.intro (R27.cell 4 0 rfl rfl) (And.intro (R27.cell 4 1 rfl rfl) (And.intro (R27.cell 4 2 rfl rfl) (And.intro (R27.cell 4 3 rfl rfl) (And.intro (R27.cell 3 0 rfl rfl) (And.intro (R27.cell 3 1 rfl rfl) (And.intro (R27.cell 3 2 rfl rfl) (And.intro (R27.cell 3 3 rfl rfl) (And.intro (R27.cell 2 0 rfl rfl) (And.intro (R27.cell 2 1 rfl rfl) (And.intro (R27.cell 2 2 rfl rfl) (R27.cell 2 3 rfl rfl)))))))))))
    clear z_v1n z_v1d hb27 R26 s26
    go_wp2_with fail
    refine hK.out _ _ (fun _ => s27) ?_
    clear hK K
    try simp only [Act.put, List.getElem_toArray, List.getElem_cons_succ, List.getElem_cons_zero, List.setIfInBounds_toArray, List.set_cons_zero, List.set_cons_succ]
    refine wpAnyL_one (i := 47) (by kernel_rfl) rfl (fun K hK => ?_)
    go_simp
    refine (qmul (k := 9) (R27.z 37 rfl) (R27.z 36 rfl) (R27.z 1 rfl) (R27.z 0 rfl) (by decide) (by decide) (by decide) (by decide) (by decide) (by decide) Ha.out (qv_self ((rb + rc)))).mono ?_; rintro e w28 ⟨b_v2n, A_v2n, n_v2n, b_v2d, A_v2d, n_v2d, rfl, z_v2n, z_v2d, hb28⟩
    have R28 := (((R27.below hb28).add z_v2n).add z_v2d)
    have s28 := And.intro (R28.cell 4 0 rfl rfl) (And.intro (R28.cell 4 1 rfl rfl) (And.intro (R28.cell 4 2 rfl rfl) (And.intro (R28.cell 4 3 rfl rfl) (And.intro (R28.cell 3 0 rfl rfl) (And.intro (R28.cell 3 1 rfl rfl) (And.intro (R28.cell 3 2 rfl rfl) (And.intro (R28.cell 3 3 rfl rfl) (And.intro (R28.cell 2 0 rfl rfl) (And.intro (R28.cell 2 1 rfl rfl) (And.intro (R28.cell 2 2 rfl rfl) (R28.cell 2 3 rfl rfl)))))))))))
    clear z_v2n z_v2d hb28 R27 s27
    go_wp2_with fail
    refine hK.out _ _ (fun _ => s28) ?_
    clear hK K
    try simp only [Act.put, List.getElem_toArray, List.getElem_cons_succ, List.getElem_cons_zero, List.setIfInBounds_toArray, List.set_cons_zero, List.set_cons_succ]
    refine wpAnyL_one (i := 50) (by kernel_rfl) rfl (fun K hK => ?_)
    go_simp
    refine (qmul (k := 4) (R28.z 39 rfl) (R28.z 38 rfl) (R28.z 37 rfl) (R28.z 36 rfl) (by decide) (by decide) (by decide) (by decide) (by decide) (by decide) Ha.out Hb.out).mono ?_; rintro e w29 ⟨b_v3n, A_v3n, n_v3n, b_v3d, A_v3d, n_v3d, rfl, z_v3n, z_v3d, hb29⟩
    have R29 := (((R28.below hb29).add z_v3n).add z_v3d)
    have s29 := And.intro (R29.cell 4 0 rfl rfl) (And.intro (R29.cell 4 1 rfl rfl) (And.intro (R29.cell 4 2 rfl rfl) (And.intro (R29.cell 4 3 rfl rfl) (And.intro (R29.cell 3 0 rfl rfl) (And.intro (R29.cell 3 1 rfl rfl) (And.intro (R29.cell 3 2 rfl rfl) (And.intro (R29.cell 3 3 rfl rfl) (And.intro (R29.cell 2 0 rfl rfl) (And.intro (R29.cell 2 1 rfl rfl) (And.intro (R29.cell 2 2 rfl rfl) (R29.cell 2 3 rfl rfl)))))))))))
    clear z_v3n z_v3d hb29 R28 s28
    go_wp2_with fail
    refine hK.out _ _ (fun _ => s29) ?_
    clear hK K
    try simp only [Act.put, List.getElem_toArray, List.getElem_cons_succ, List.getElem_cons_zero, List.setIfInBounds_toArray, List.set_cons_zero, List.set_cons_succ]
    refine wpAnyL_one (i := 53) (by kernel_rfl) rfl (fun K hK => ?_)
    go_simp
    refine (qmul (k := 4) (R29.z 41 rfl) (R29.z 40 rfl) (R29.z 37 rfl) (R29.z 36 rfl) (by decide) (by decide) (by decide) (by decide) (by decide) (by decide) Ha.out Hc.out).mono ?_; rintro e w30 ⟨b_v4n, A_v4n, n_v4n, b_v4d, A_v4d, n_v4d, rfl, z_v4n, z_v4d, hb30⟩
    have R30 := (((R29.below hb30).add z_v4n).add z_v4d)
    have s30 := And.intro (R30.cell 4 0 rfl rfl) (And.intro (R30.cell 4 1 rfl rfl) (And.intro (R30.cell 4 2 rfl rfl) (And.intro (R30.cell 4 3 rfl rfl) (And.intro (R30.cell 3 0 rfl rfl) (And.intro (R30.cell 3 1 rfl rfl) (And.intro (R30.cell 3 2 rfl rfl) (And.intro (R30.cell 3 3 rfl rfl) (And.intro (R30.cell 2 0 rfl rfl) (And.intro (R30.cell 2 1 rfl rfl) (And.intro (R30.cell 2 2 rfl rfl) (R30.cell 2 3 rfl rfl)))))))))))
    clear z_v4n z_v4d hb30 R29 s29
    go_wp2_with fail
    refine hK.out _ _ (fun _ => s30) ?_
    clear hK K
    try simp only [Act.put, List.getElem_toArray, List.getElem_cons_succ, List.getElem_cons_zero, List.setIfInBounds_toArray, List.set_cons_zero, List.set_cons_succ]
    refine wpAnyL_one (i := 54) (by kernel_rfl) rfl (fun K hK => ?_)
    go_simp
    refine (qadd (k := 8) (R30.z 3 rfl) (R30.z 2 rfl) (R30.z 1 rfl) (R30.z 0 rfl) (by decide) (by decide) (by decide) (by decide) (by decide) (by decide) (qv_self ((ra * rb))) (qv_self ((ra * rc)))).mono ?_; rintro e w31 ⟨b_v5n, A_v5n, n_v5n, b_v5d, A_v5d, n_v5d, rfl, z_v5n, z_v5d, hb31⟩
    have R31 := (((R30.below hb31).add z_v5n).add z_v5d)
    have s31 := And.intro (R31.cell 4 0 rfl rfl) (And.intro (R31.cell 4 1 rfl rfl) (And.intro (R31.cell 4 2 rfl rfl) (And.intro (R31.cell 4 3 rfl rfl) (And.intro (R31.cell 3 0 rfl rfl) (And.intro (R31.cell 3 1 rfl rfl) (And.intro (R31.cell 3 2 rfl rfl) (And.intro (R31.cell 3 3 rfl rfl) (And.intro (R31.cell 2 0 rfl rfl) (And.intro (R31.cell 2 1 rfl rfl) (And.intro (R31.cell 2 2 rfl rfl) (R31.cell 2 3 rfl rfl)))))))))))
    clear z_v5n z_v5d hb31 R30 s30
    go_wp2_with fail
    refine hK.out _ _ (fun _ => s31) ?_
    clear hK K
    try simp only [Act.put, List.getElem_toArray, List.getElem_cons_succ, List.getElem_cons_zero, List.setIfInBounds_toArray, List.set_cons_zero, List.set_cons_succ]
    refine wpAnyL_one (i := 55) (by kernel_rfl) rfl (fun K hK => ?_)
    go_simp
    refine (rqsame (R31.z 7 rfl) (R31.z 6 rfl) (R31.z 1 rfl) (R31.z 0 rfl) (by decide) (by decide) (by decide) (by decide) (qsame_eq (Rat.mul_add ra rb rc))).mono ?_; rintro e w32 ⟨rfl, hb32⟩
    have R32 := (R31.below hb32)
    have s32 := And.intro (R32.cell 4 0 rfl rfl) (And.intro (R32.cell 4 1 rfl rfl) (And.intro (R32.cell 4 2 rfl rfl) (And.intro (R32.cell 4 3 rfl rfl) (And.intro (R32.cell 3 0 rfl rfl) (And.intro (R32.cell 3 1 rfl rfl) (And.intro (R32.cell 3 2 rfl rfl) (And.intro (R32.cell 3 3 rfl rfl) (And.intro (R32.cell 2 0 rfl rfl) (And.intro (R32.cell 2 1 rfl rfl) (And.intro (R32.cell 2 2 rfl rfl) (R32.cell 2 3 rfl rfl)))))))))))
    clear hb32 R31 s31
    go_wp2_with fail
    refine hK.out _ _ (fun _ => s32) ?_
    clear hK K
    try simp only [Act.put, List.getElem_toArray, List.getElem_cons_succ, List.getElem_cons_zero, List.setIfInBounds_toArray, List.set_cons_zero, List.set_cons_succ]
    refine wpAnyL_take (i := 56) (v := ?_) rfl (by kernel_rfl) (by kernel_rfl) (by kernel_rfl) (by kernel_rfl) (by kernel_rfl) (fun _ _ _ h => h) (Or.inl ⟨by kernel_rfl, ?_⟩) s32 ?_
    rotate_left
    · rintro w' ⟨h1, h2, h3, h4, h5, h6, h7, h8, h9, h10, h11, h12⟩; go_simp; (try with_reducible rfl)
    try simp only [Act.put, List.getElem_toArray, List.getElem_cons_succ, List.getElem_cons_zero, List.setIfInBounds_toArray, List.set_cons_zero, List.set_cons_succ]
    refine wpAnyL_one (i := 57) (by kernel_rfl) rfl (fun K hK => ?_)
    go_simp
    refine hK.out _ _ (fun _ => s32) ?_
    clear hK K
    try simp only [Act.put, List.getElem_toArray, List.getElem_cons_succ, List.getElem_cons_zero, List.setIfInBounds_toArray, List.set_cons_zero, List.set_cons_succ]
    refine wpAnyL_done (by kernel_rfl) ?_ _
    go_wp2_with fail
    go_ret
    exact ⟨rfl, R32.bel⟩
end Go.Proofs.YticjhlbmdjijnaaGreatDoor
