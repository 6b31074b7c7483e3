/- The law RatioOrder, walked. No condition but the reach of a slice. No condition but the reach of a slice. -/
import Derived.Test.YticjhlbmdjijnaaGreatDoorHQAwake
import Derived.Test.YticjhlbmdjijnaaGreatDoorHQFew
import Derived.Test.YticjhlbmdjijnaaGreatDoorHQT
import Derived.Test.YticjhlbmdjijnaaGreatDoorHQU
import Derived.Test.YticjhlbmdjijnaaGreatDoorHQMore
namespace Go.Proofs.YticjhlbmdjijnaaGreatDoor
set_option linter.unusedSimpArgs false
set_option linter.unusedVariables false
open Go.RowKit

theorem qtri_lo {a b c : Rat} {x y z : Int} (hx : qcmp a b = x) (hy : qcmp b c = y) (hz : qcmp a c = z) (h1 : x ≤ 0) (h2 : y ≤ 0) : z ≤ 0 := by
  rcases qcmp_cases a c with h | h | h
  · omega
  · omega
  · have e3 := qcmp_gt.1 h
    have e1 : ¬ b < a := fun e => by have := qcmp_gt.2 e; omega
    have e2 : ¬ c < b := fun e => by have := qcmp_gt.2 e; omega
    exact absurd e3 (by grind)
theorem qtri_hi {a b c : Rat} {x y z : Int} (hx : qcmp a b = x) (hy : qcmp b c = y) (hz : qcmp a c = z) (h1 : 0 ≤ x) (h2 : 0 ≤ y) : 0 ≤ z := by
  rcases qcmp_cases a c with h | h | h
  · have e3 := qcmp_lt.1 h
    have e1 : ¬ a < b := fun e => by have := qcmp_lt.2 e; omega
    have e2 : ¬ b < c := fun e => by have := qcmp_lt.2 e; omega
    exact absurd e3 (by grind)
  · omega
  · omega
set_option maxRecDepth 100000 in
set_option maxHeartbeats 25600000 in
theorem ratioOrder_any (ba : Bool) (Aa : Option Addr) (na ca : Nat) (la : List Nat) (ba' : Bool) (Aa' : Option Addr) (na' ca' : Nat) (la' : List Nat) (bb : Bool) (Ab : Option Addr) (nb cb : Nat) (lb : List Nat) (bb' : Bool) (Ab' : Option Addr) (nb' cb' : Nat) (lb' : List Nat) (bc : Bool) (Ac : Option Addr) (nc cc : Nat) (lc : List Nat) (bc' : Bool) (Ac' : Option Addr) (nc' cc' : Nat) (lc' : List Nat) (w : World) (hra : Lim w Aa na ca la) (hna : na ≤ maxLen) (hra' : Lim w Aa' na' ca' la') (hna' : na' ≤ maxLen) (hrb : Lim w Ab nb cb lb) (hnb : nb ≤ maxLen) (hrb' : Lim w Ab' nb' cb' lb') (hnb' : nb' ≤ maxLen) (hrc : Lim w Ac nc cc lc) (hnc : nc ≤ maxLen) (hrc' : Lim w Ac' nc' cc' lc') (hnc' : nc' ≤ maxLen) : Calls Tryz.prog 6 #[.agg #[.bool ba, .slice Aa na ca, .bool ba', .slice Aa' na' ca'], .agg #[.bool bb, .slice Ab nb cb, .bool bb', .slice Ab' nb' cb'], .agg #[.bool bc, .slice Ac nc cc, .bool bc', .slice Ac' nc' cc']] w fun e w' => e = .returned (.bool true) ∧ Below w.heap.size w w' := by
  by_cases hfa : ¬ (na ≤ 4 ∧ na' ≤ 4)
  · have R0 := ((((Env.nil_ w).alloc 26 #[.bool ba, .slice Aa na ca, .bool ba', .slice Aa' na' ca'] (g := w.heap.size) rfl rfl).alloc 26 #[.bool bb, .slice Ab nb cb, .bool bb', .slice Ab' nb' cb'] (g := w.heap.size + 1) (by simp) rfl).alloc 26 #[.bool bc, .slice Ac nc cc, .bool bc', .slice Ac' nc' cc'] (g := w.heap.size + 1 + 1) (by simp) rfl)
    have HF := Lib.hid hfa
    clear hfa
    go_enter Tryz.func6, Tryz.ntmps6
    go_wp2_with fail
    refine (qawake_any _).mono ?_; rintro e w1 ⟨rfl, hb1⟩
    have R1 := (R0.below hb1)
    clear hb1 R0
    have k2a0 := R1.cell 2 0 rfl rfl
    have k2a1 := R1.cell 2 1 rfl rfl
    have k2a2 := R1.cell 2 2 rfl rfl
    have k2a3 := R1.cell 2 3 rfl rfl
    go_wp2_with fail
    clear k2a0 k2a1 k2a2 k2a3
    refine (qfew _ _ _ _ _ _ _ _ _).mono ?_; rintro e w2 ⟨rfl, hb2⟩
    have R2 := (R1.below hb2)
    clear hb2 R1
    rw [decide_eq_false HF.out]
    go_wp2_with fail
    go_ret
    exact ⟨rfl, R2.bel⟩
  have hfa := Lib.hid (Classical.not_not.1 hfa)
  by_cases hfb : ¬ (nb ≤ 4 ∧ nb' ≤ 4)
  · have R0 := ((((Env.nil_ w).alloc 26 #[.bool ba, .slice Aa na ca, .bool ba', .slice Aa' na' ca'] (g := w.heap.size) rfl rfl).alloc 26 #[.bool bb, .slice Ab nb cb, .bool bb', .slice Ab' nb' cb'] (g := w.heap.size + 1) (by simp) rfl).alloc 26 #[.bool bc, .slice Ac nc cc, .bool bc', .slice Ac' nc' cc'] (g := w.heap.size + 1 + 1) (by simp) rfl)
    have HF := Lib.hid hfb
    clear hfb
    go_enter Tryz.func6, Tryz.ntmps6
    go_wp2_with fail
    refine (qawake_any _).mono ?_; rintro e w1 ⟨rfl, hb1⟩
    have R1 := (R0.below hb1)
    clear hb1 R0
    have k2a0 := R1.cell 2 0 rfl rfl
    have k2a1 := R1.cell 2 1 rfl rfl
    have k2a2 := R1.cell 2 2 rfl rfl
    have k2a3 := R1.cell 2 3 rfl rfl
    go_wp2_with fail
    clear k2a0 k2a1 k2a2 k2a3
    refine (qfew _ _ _ _ _ _ _ _ _).mono ?_; rintro e w2 ⟨rfl, hb2⟩
    have R2 := (R1.below hb2)
    clear hb2 R1
    rw [decide_eq_true hfa.out]
    have k3b0 := R2.cell 1 0 rfl rfl
    have k3b1 := R2.cell 1 1 rfl rfl
    have k3b2 := R2.cell 1 2 rfl rfl
    have k3b3 := R2.cell 1 3 rfl rfl
    go_wp2_with fail
    clear k3b0 k3b1 k3b2 k3b3
    refine (qfew _ _ _ _ _ _ _ _ _).mono ?_; rintro e w3 ⟨rfl, hb3⟩
    have R3 := (R2.below hb3)
    clear hb3 R2
    rw [decide_eq_false HF.out]
    go_wp2_with fail
    go_ret
    exact ⟨rfl, R3.bel⟩
  have hfb := Lib.hid (Classical.not_not.1 hfb)
  by_cases hfc : ¬ (nc ≤ 4 ∧ nc' ≤ 4)
  · have R0 := ((((Env.nil_ w).alloc 26 #[.bool ba, .slice Aa na ca, .bool ba', .slice Aa' na' ca'] (g := w.heap.size) rfl rfl).alloc 26 #[.bool bb, .slice Ab nb cb, .bool bb', .slice Ab' nb' cb'] (g := w.heap.size + 1) (by simp) rfl).alloc 26 #[.bool bc, .slice Ac nc cc, .bool bc', .slice Ac' nc' cc'] (g := w.heap.size + 1 + 1) (by simp) rfl)
    have HF := Lib.hid hfc
    clear hfc
    go_enter Tryz.func6, Tryz.ntmps6
    go_wp2_with fail
    refine (qawake_any _).mono ?_; rintro e w1 ⟨rfl, hb1⟩
    have R1 := (R0.below hb1)
    clear hb1 R0
    have k2a0 := R1.cell 2 0 rfl rfl
    have k2a1 := R1.cell 2 1 rfl rfl
    have k2a2 := R1.cell 2 2 rfl rfl
    have k2a3 := R1.cell 2 3 rfl rfl
    go_wp2_with fail
    clear k2a0 k2a1 k2a2 k2a3
    refine (qfew _ _ _ _ _ _ _ _ _).mono ?_; rintro e w2 ⟨rfl, hb2⟩
    have R2 := (R1.below hb2)
    clear hb2 R1
    rw [decide_eq_true hfa.out]
    have k3b0 := R2.cell 1 0 rfl rfl
    have k3b1 := R2.cell 1 1 rfl rfl
    have k3b2 := R2.cell 1 2 rfl rfl
    have k3b3 := R2.cell 1 3 rfl rfl
    go_wp2_with fail
    clear k3b0 k3b1 k3b2 k3b3
    refine (qfew _ _ _ _ _ _ _ _ _).mono ?_; rintro e w3 ⟨rfl, hb3⟩
    have R3 := (R2.below hb3)
    clear hb3 R2
    rw [decide_eq_true hfb.out]
    have k4c0 := R3.cell 0 0 rfl rfl
    have k4c1 := R3.cell 0 1 rfl rfl
    have k4c2 := R3.cell 0 2 rfl rfl
    have k4c3 := R3.cell 0 3 rfl rfl
    go_wp2_with fail
    clear k4c0 k4c1 k4c2 k4c3
    refine (qfew _ _ _ _ _ _ _ _ _).mono ?_; rintro e w4 ⟨rfl, hb4⟩
    have R4 := (R3.below hb4)
    clear hb4 R3
    rw [decide_eq_false HF.out]
    go_wp2_with fail
    go_ret
    exact ⟨rfl, R4.bel⟩
  have hfc := Lib.hid (Classical.not_not.1 hfc)
  have zan := ZIs.of_lim (b := ba) (k := 4) hra hfa.out.1
  have zad := ZIs.of_lim (b := ba') (k := 4) hra' hfa.out.2
  generalize zv ba (vl la) = xa at zan
  generalize zv ba' (vl la') = ya at zad
  obtain ⟨ra, hra_⟩ : ∃ r, qv xa ya = r := ⟨_, rfl⟩
  have Ha := Lib.hid hra_
  clear hra_ hra hra' hna hna'
  have zbn := ZIs.of_lim (b := bb) (k := 4) hrb hfb.out.1
  have zbd := ZIs.of_lim (b := bb') (k := 4) hrb' hfb.out.2
  generalize zv bb (vl lb) = xb at zbn
  generalize zv bb' (vl lb') = yb at zbd
  obtain ⟨rb, hrb_⟩ : ∃ r, qv xb yb = r := ⟨_, rfl⟩
  have Hb := Lib.hid hrb_
  clear hrb_ hrb hrb' hnb hnb'
  have zcn := ZIs.of_lim (b := bc) (k := 4) hrc hfc.out.1
  have zcd := ZIs.of_lim (b := bc') (k := 4) hrc' hfc.out.2
  generalize zv bc (vl lc) = xc at zcn
  generalize zv bc' (vl lc') = yc at zcd
  obtain ⟨rc, hrc_⟩ : ∃ r, qv xc yc = r := ⟨_, rfl⟩
  have Hc := Lib.hid hrc_
  clear hrc_ hrc hrc' hnc hnc'
  have R0 := ((((((((((Env.nil_ w).add zan).add zad).add zbn).add zbd).add zcn).add zcd).alloc 26 #[.bool ba, .slice Aa na ca, .bool ba', .slice Aa' na' ca'] (g := w.heap.size) rfl rfl).alloc 26 #[.bool bb, .slice Ab nb cb, .bool bb', .slice Ab' nb' cb'] (g := w.heap.size + 1) (by simp) rfl).alloc 26 #[.bool bc, .slice Ac nc cc, .bool bc', .slice Ac' nc' cc'] (g := w.heap.size + 1 + 1) (by simp) rfl)
  clear zan zad zbn zbd zcn zcd
  obtain ⟨y, hy⟩ : ∃ y, qcmp rb rc = y := ⟨_, rfl⟩
  obtain ⟨z, hz⟩ : ∃ z, qcmp ra rc = z := ⟨_, rfl⟩
  have Hy := Lib.hid hy
  clear hy
  have Hz := Lib.hid hz
  clear hz
  rcases qcmp_cases ra rb with hx | hx | hx
  · have HX := Lib.hid hx
    clear hx
    go_enter Tryz.func6, Tryz.ntmps6
    go_wp2_with fail
    refine (qawake_any _).mono ?_; rintro e w1 ⟨rfl, hb1⟩
    have R1 := (R0.below hb1)
    clear hb1 R0
    have k2a0 := R1.cell 2 0 rfl rfl
    have k2a1 := R1.cell 2 1 rfl rfl
    have k2a2 := R1.cell 2 2 rfl rfl
    have k2a3 := R1.cell 2 3 rfl rfl
    go_wp2_with fail
    clear k2a0 k2a1 k2a2 k2a3
    refine (qfew _ _ _ _ _ _ _ _ _).mono ?_; rintro e w2 ⟨rfl, hb2⟩
    have R2 := (R1.below hb2)
    clear hb2 R1
    rw [decide_eq_true hfa.out]
    have k3b0 := R2.cell 1 0 rfl rfl
    have k3b1 := R2.cell 1 1 rfl rfl
    have k3b2 := R2.cell 1 2 rfl rfl
    have k3b3 := R2.cell 1 3 rfl rfl
    go_wp2_with fail
    clear k3b0 k3b1 k3b2 k3b3
    refine (qfew _ _ _ _ _ _ _ _ _).mono ?_; rintro e w3 ⟨rfl, hb3⟩
    have R3 := (R2.below hb3)
    clear hb3 R2
    rw [decide_eq_true hfb.out]
    have k4c0 := R3.cell 0 0 rfl rfl
    have k4c1 := R3.cell 0 1 rfl rfl
    have k4c2 := R3.cell 0 2 rfl rfl
    have k4c3 := R3.cell 0 3 rfl rfl
    go_wp2_with fail
    clear k4c0 k4c1 k4c2 k4c3
    refine (qfew _ _ _ _ _ _ _ _ _).mono ?_; rintro e w4 ⟨rfl, hb4⟩
    have R4 := (R3.below hb4)
    clear hb4 R3
    rw [decide_eq_true hfc.out]
    have k5a0 := R4.cell 2 0 rfl rfl
    have k5a1 := R4.cell 2 1 rfl rfl
    have k5a2 := R4.cell 2 2 rfl rfl
    have k5a3 := R4.cell 2 3 rfl rfl
    have k5b0 := R4.cell 1 0 rfl rfl
    have k5b1 := R4.cell 1 1 rfl rfl
    have k5b2 := R4.cell 1 2 rfl rfl
    have k5b3 := R4.cell 1 3 rfl rfl
    go_wp2_with fail
    clear k5a0 k5a1 k5a2 k5a3 k5b0 k5b1 k5b2 k5b3
    refine (qcmp_ (k := 4) (R4.z 5 rfl) (R4.z 4 rfl) (R4.z 3 rfl) (R4.z 2 rfl) (by decide) (by decide) (by decide) (by decide) (by decide) (by decide) Ha.out Hb.out HX.out).mono ?_; rintro e w5 ⟨rfl, hb5⟩
    have R5 := (R4.below hb5)
    clear hb5 R4
    have k6b0 := R5.cell 1 0 rfl rfl
    have k6b1 := R5.cell 1 1 rfl rfl
    have k6b2 := R5.cell 1 2 rfl rfl
    have k6b3 := R5.cell 1 3 rfl rfl
    have k6c0 := R5.cell 0 0 rfl rfl
    have k6c1 := R5.cell 0 1 rfl rfl
    have k6c2 := R5.cell 0 2 rfl rfl
    have k6c3 := R5.cell 0 3 rfl rfl
    go_wp2_with fail
    clear k6b0 k6b1 k6b2 k6b3 k6c0 k6c1 k6c2 k6c3
    refine (qcmp_ (k := 4) (R5.z 3 rfl) (R5.z 2 rfl) (R5.z 1 rfl) (R5.z 0 rfl) (by decide) (by decide) (by decide) (by decide) (by decide) (by decide) Hb.out Hc.out Hy.out).mono ?_; rintro e w6 ⟨rfl, hb6⟩
    have R6 := (R5.below hb6)
    clear hb6 R5
    have k7a0 := R6.cell 2 0 rfl rfl
    have k7a1 := R6.cell 2 1 rfl rfl
    have k7a2 := R6.cell 2 2 rfl rfl
    have k7a3 := R6.cell 2 3 rfl rfl
    have k7c0 := R6.cell 0 0 rfl rfl
    have k7c1 := R6.cell 0 1 rfl rfl
    have k7c2 := R6.cell 0 2 rfl rfl
    have k7c3 := R6.cell 0 3 rfl rfl
    go_wp2_with fail
    clear k7a0 k7a1 k7a2 k7a3 k7c0 k7c1 k7c2 k7c3
    refine (qcmp_ (k := 4) (R6.z 5 rfl) (R6.z 4 rfl) (R6.z 1 rfl) (R6.z 0 rfl) (by decide) (by decide) (by decide) (by decide) (by decide) (by decide) Ha.out Hc.out Hz.out).mono ?_; rintro e w7 ⟨rfl, hb7⟩
    have R7 := (R6.below hb7)
    clear hb7 R6
    go_wp2_with fail
    have D8 := R7.drew
    have s8 := And.intro (D8.cell 2 0 rfl rfl) (And.intro (D8.cell 2 1 rfl rfl) (And.intro (D8.cell 2 2 rfl rfl) (And.intro (D8.cell 2 3 rfl rfl) (And.intro (D8.cell 1 0 rfl rfl) (And.intro (D8.cell 1 1 rfl rfl) (And.intro (D8.cell 1 2 rfl rfl) (D8.cell 1 3 rfl rfl)))))))
    refine wp_region_late [] (fun w' => w'.cell? ⟨w.heap.size, 0, none⟩ = some (.bool ba) ∧ w'.cell? ⟨w.heap.size, 1, none⟩ = some (.slice Aa na ca) ∧ w'.cell? ⟨w.heap.size, 2, none⟩ = some (.bool ba') ∧ w'.cell? ⟨w.heap.size, 3, none⟩ = some (.slice Aa' na' ca') ∧ w'.cell? ⟨w.heap.size + 1, 0, none⟩ = some (.bool bb) ∧ w'.cell? ⟨w.heap.size + 1, 1, none⟩ = some (.slice Ab nb cb) ∧ w'.cell? ⟨w.heap.size + 1, 2, none⟩ = some (.bool bb') ∧ w'.cell? ⟨w.heap.size + 1, 3, none⟩ = some (.slice Ab' nb' cb')) (by kernel_rfl) ?_
    refine wpAnyL_take (i := 0) (v := ?_) rfl (by kernel_rfl) (by kernel_rfl) (by kernel_rfl) (by kernel_rfl) (by kernel_rfl) (fun _ _ _ h => h) (Or.inl ⟨by kernel_rfl, ?_⟩) s8 ?_
    rotate_left
    · rintro w' ⟨h1, h2, h3, h4, h5, h6, h7, h8⟩; go_simp; (try with_reducible rfl)
    try simp only [Act.put, List.getElem_toArray, List.getElem_cons_succ, List.getElem_cons_zero, List.setIfInBounds_toArray, List.set_cons_zero, List.set_cons_succ]
    refine wpAnyL_take (i := 1) (v := ?_) rfl (by kernel_rfl) (by kernel_rfl) (by kernel_rfl) (by kernel_rfl) (by kernel_rfl) (fun _ _ _ h => h) (Or.inl ⟨by kernel_rfl, ?_⟩) s8 ?_
    rotate_left
    · rintro w' ⟨h1, h2, h3, h4, h5, h6, h7, h8⟩; go_simp; (try with_reducible rfl)
    try simp only [Act.put, List.getElem_toArray, List.getElem_cons_succ, List.getElem_cons_zero, List.setIfInBounds_toArray, List.set_cons_zero, List.set_cons_succ]
    refine wpAnyL_take (i := 2) (v := ?_) rfl (by kernel_rfl) (by kernel_rfl) (by kernel_rfl) (by kernel_rfl) (by kernel_rfl) (fun _ _ _ h => h) (Or.inl ⟨by kernel_rfl, ?_⟩) s8 ?_
    rotate_left
    · rintro w' ⟨h1, h2, h3, h4, h5, h6, h7, h8⟩; go_simp; (try with_reducible rfl)
    try simp only [Act.put, List.getElem_toArray, List.getElem_cons_succ, List.getElem_cons_zero, List.setIfInBounds_toArray, List.set_cons_zero, List.set_cons_succ]
    refine wpAnyL_one (i := 3) (by kernel_rfl) rfl (fun K hK => ?_)
    go_simp
    refine (qsub (k := 4) (D8.z 5 rfl) (D8.z 4 rfl) (D8.z 3 rfl) (D8.z 2 rfl) (by decide) (by decide) (by decide) (by decide) (by decide) (by decide) Ha.out Hb.out).mono ?_; rintro e w9 ⟨b_sn, A_sn, n_sn, b_sd, A_sd, n_sd, rfl, z_sn, z_sd, hb9⟩
    have R9 := (((D8.below hb9).add z_sn).add z_sd)
    have s9 := And.intro (R9.cell 2 0 rfl rfl) (And.intro (R9.cell 2 1 rfl rfl) (And.intro (R9.cell 2 2 rfl rfl) (And.intro (R9.cell 2 3 rfl rfl) (And.intro (R9.cell 1 0 rfl rfl) (And.intro (R9.cell 1 1 rfl rfl) (And.intro (R9.cell 1 2 rfl rfl) (R9.cell 1 3 rfl rfl)))))))
    clear z_sn z_sd hb9 D8 s8
    go_wp2_with fail
    refine hK.out _ _ (fun _ => s9) ?_
    clear hK K
    try simp only [Act.put, List.getElem_toArray, List.getElem_cons_succ, List.getElem_cons_zero, List.setIfInBounds_toArray, List.set_cons_zero, List.set_cons_succ]
    refine wpAnyL_one (i := 4) (by kernel_rfl) rfl (fun K hK => ?_)
    go_simp
    refine (rqzero _).mono ?_; rintro e w10 ⟨b_zen, A_zen, n_zen, c_zen, b_zed, A_zed, n_zed, c_zed, rfl, z_zen, z_zed, hb10⟩
    have R10 := (((R9.below hb10).add z_zen).add z_zed)
    have s10 := And.intro (R10.cell 2 0 rfl rfl) (And.intro (R10.cell 2 1 rfl rfl) (And.intro (R10.cell 2 2 rfl rfl) (And.intro (R10.cell 2 3 rfl rfl) (And.intro (R10.cell 1 0 rfl rfl) (And.intro (R10.cell 1 1 rfl rfl) (And.intro (R10.cell 1 2 rfl rfl) (R10.cell 1 3 rfl rfl)))))))
    clear z_zen z_zed hb10 R9 s9
    go_wp2_with fail
    refine hK.out _ _ (fun _ => s10) ?_
    clear hK K
    try simp only [Act.put, List.getElem_toArray, List.getElem_cons_succ, List.getElem_cons_zero, List.setIfInBounds_toArray, List.set_cons_zero, List.set_cons_succ]
    refine wpAnyL_one (i := 5) (by kernel_rfl) rfl (fun K hK => ?_)
    go_simp
    refine (qcmp_ (k := 9) (R10.z 3 rfl) (R10.z 2 rfl) (R10.z 1 rfl) (R10.z 0 rfl) (by decide) (by decide) (by decide) (by decide) (by decide) (by decide) (qv_self ((ra - rb))) (qv_self (0)) ((qcmp_sub ra rb).trans HX.out)).mono ?_; rintro e w11 ⟨rfl, hb11⟩
    have R11 := (R10.below hb11)
    have s11 := And.intro (R11.cell 2 0 rfl rfl) (And.intro (R11.cell 2 1 rfl rfl) (And.intro (R11.cell 2 2 rfl rfl) (And.intro (R11.cell 2 3 rfl rfl) (And.intro (R11.cell 1 0 rfl rfl) (And.intro (R11.cell 1 1 rfl rfl) (And.intro (R11.cell 1 2 rfl rfl) (R11.cell 1 3 rfl rfl)))))))
    clear hb11 R10 s10
    go_wp2_with fail
    refine hK.out _ _ (fun _ => s11) ?_
    clear hK K
    try simp only [Act.put, List.getElem_toArray, List.getElem_cons_succ, List.getElem_cons_zero, List.setIfInBounds_toArray, List.set_cons_zero, List.set_cons_succ]
    refine wpAnyL_take (i := 6) (v := ?_) rfl (by kernel_rfl) (by kernel_rfl) (by kernel_rfl) (by kernel_rfl) (by kernel_rfl) (fun _ _ _ h => h) (Or.inl ⟨by kernel_rfl, ?_⟩) s11 ?_
    rotate_left
    · rintro w' ⟨h1, h2, h3, h4, h5, h6, h7, h8⟩; go_simp; (try with_reducible rfl)
    try simp only [Act.put, List.getElem_toArray, List.getElem_cons_succ, List.getElem_cons_zero, List.setIfInBounds_toArray, List.set_cons_zero, List.set_cons_succ]
    refine wpAnyL_take (i := 7) (v := ?_) rfl (by kernel_rfl) (by kernel_rfl) (by kernel_rfl) (by kernel_rfl) (by kernel_rfl) (fun _ _ _ h => h) (Or.inl ⟨by kernel_rfl, ?_⟩) s11 ?_
    rotate_left
    · rintro w' ⟨h1, h2, h3, h4, h5, h6, h7, h8⟩; go_simp; (try with_reducible rfl)
    try simp only [Act.put, List.getElem_toArray, List.getElem_cons_succ, List.getElem_cons_zero, List.setIfInBounds_toArray, List.set_cons_zero, List.set_cons_succ]
    refine wpAnyL_take (i := 8) (v := ?_) rfl (by kernel_rfl) (by kernel_rfl) (by kernel_rfl) (by kernel_rfl) (by kernel_rfl) (fun _ _ _ h => h) (Or.inl ⟨by kernel_rfl, ?_⟩) s11 ?_
    rotate_left
    · rintro w' ⟨h1, h2, h3, h4, h5, h6, h7, h8⟩; go_simp; (try with_reducible rfl)
    try simp only [Act.put, List.getElem_toArray, List.getElem_cons_succ, List.getElem_cons_zero, List.setIfInBounds_toArray, List.set_cons_zero, List.set_cons_succ]
    refine wpAnyL_take (i := 9) (v := ?_) rfl (by kernel_rfl) (by kernel_rfl) (by kernel_rfl) (by kernel_rfl) (by kernel_rfl) (fun _ _ _ h => h) (Or.inl ⟨by kernel_rfl, ?_⟩) s11 ?_
    rotate_left
    · rintro w' ⟨h1, h2, h3, h4, h5, h6, h7, h8⟩; go_simp; (try with_reducible rfl)
    try simp only [Act.put, List.getElem_toArray, List.getElem_cons_succ, List.getElem_cons_zero, List.setIfInBounds_toArray, List.set_cons_zero, List.set_cons_succ]
    refine wpAnyL_take (i := 10) (v := ?_) rfl (by kernel_rfl) (by kernel_rfl) (by kernel_rfl) (by kernel_rfl) (by kernel_rfl) (fun _ _ _ h => h) (Or.inl ⟨by kernel_rfl, ?_⟩) s11 ?_
    rotate_left
    · rintro w' ⟨h1, h2, h3, h4, h5, h6, h7, h8⟩; go_simp; (try with_reducible rfl)
    try simp only [Act.put, List.getElem_toArray, List.getElem_cons_succ, List.getElem_cons_zero, List.setIfInBounds_toArray, List.set_cons_zero, List.set_cons_succ]
    refine wpAnyL_one (i := 11) (by kernel_rfl) rfl (fun K hK => ?_)
    go_simp
    refine (qcmp_ (k := 4) (R11.z 7 rfl) (R11.z 6 rfl) (R11.z 9 rfl) (R11.z 8 rfl) (by decide) (by decide) (by decide) (by decide) (by decide) (by decide) Hb.out Ha.out (show qcmp rb ra = 1 from by rw [qcmp_swap ra rb, HX.out] <;> rfl)).mono ?_; rintro e w12 ⟨rfl, hb12⟩
    have R12 := (R11.below hb12)
    have s12 := And.intro (R12.cell 2 0 rfl rfl) (And.intro (R12.cell 2 1 rfl rfl) (And.intro (R12.cell 2 2 rfl rfl) (And.intro (R12.cell 2 3 rfl rfl) (And.intro (R12.cell 1 0 rfl rfl) (And.intro (R12.cell 1 1 rfl rfl) (And.intro (R12.cell 1 2 rfl rfl) (R12.cell 1 3 rfl rfl)))))))
    clear hb12 R11 s11
    go_wp2_with fail
    refine hK.out _ _ (fun _ => s12) ?_
    clear hK K
    try simp only [Act.put, List.getElem_toArray, List.getElem_cons_succ, List.getElem_cons_zero, List.setIfInBounds_toArray, List.set_cons_zero, List.set_cons_succ]
    refine wpAnyL_take (i := 12) (v := ?_) rfl (by kernel_rfl) (by kernel_rfl) (by kernel_rfl) (by kernel_rfl) (by kernel_rfl) (fun _ _ _ h => h) (Or.inl ⟨by kernel_rfl, ?_⟩) s12 ?_
    rotate_left
    · rintro w' ⟨h1, h2, h3, h4, h5, h6, h7, h8⟩; go_simp; (try with_reducible rfl)
    try simp only [Act.put, List.getElem_toArray, List.getElem_cons_succ, List.getElem_cons_zero, List.setIfInBounds_toArray, List.set_cons_zero, List.set_cons_succ]
    refine wpAnyL_take (i := 13) (v := ?_) rfl (by kernel_rfl) (by kernel_rfl) (by kernel_rfl) (by kernel_rfl) (by kernel_rfl) (fun _ _ _ h => h) (Or.inl ⟨by kernel_rfl, ?_⟩) s12 ?_
    rotate_left
    · rintro w' ⟨h1, h2, h3, h4, h5, h6, h7, h8⟩; go_simp; (try with_reducible rfl)
    try simp only [Act.put, List.getElem_toArray, List.getElem_cons_succ, List.getElem_cons_zero, List.setIfInBounds_toArray, List.set_cons_zero, List.set_cons_succ]
    refine wpAnyL_take (i := 14) (v := ?_) rfl (by kernel_rfl) (by kernel_rfl) (by kernel_rfl) (by kernel_rfl) (by kernel_rfl) (fun _ _ _ h => h) (Or.inl ⟨by kernel_rfl, ?_⟩) s12 ?_
    rotate_left
    · rintro w' ⟨h1, h2, h3, h4, h5, h6, h7, h8⟩; go_simp; (try with_reducible rfl)
    try simp only [Act.put, List.getElem_toArray, List.getElem_cons_succ, List.getElem_cons_zero, List.setIfInBounds_toArray, List.set_cons_zero, List.set_cons_succ]
    refine wpAnyL_take (i := 15) (v := ?_) rfl (by kernel_rfl) (by kernel_rfl) (by kernel_rfl) (by kernel_rfl) (by kernel_rfl) (fun _ _ _ h => h) (Or.inl ⟨by kernel_rfl, ?_⟩) s12 ?_
    rotate_left
    · rintro w' ⟨h1, h2, h3, h4, h5, h6, h7, h8⟩; go_simp; (try with_reducible rfl)
    try simp only [Act.put, List.getElem_toArray, List.getElem_cons_succ, List.getElem_cons_zero, List.setIfInBounds_toArray, List.set_cons_zero, List.set_cons_succ]
    refine wpAnyL_take (i := 16) (v := ?_) rfl (by kernel_rfl) (by kernel_rfl) (by kernel_rfl) (by kernel_rfl) (by kernel_rfl) (fun _ _ _ h => h) (Or.inl ⟨by kernel_rfl, ?_⟩) s12 ?_
    rotate_left
    · rintro w' ⟨h1, h2, h3, h4, h5, h6, h7, h8⟩; go_simp; (try with_reducible rfl)
    try simp only [Act.put, List.getElem_toArray, List.getElem_cons_succ, List.getElem_cons_zero, List.setIfInBounds_toArray, List.set_cons_zero, List.set_cons_succ]
    refine wpAnyL_take (i := 17) (v := ?_) rfl (by kernel_rfl) (by kernel_rfl) (by kernel_rfl) (by kernel_rfl) (by kernel_rfl) (fun _ _ _ h => h) (Or.inl ⟨by kernel_rfl, ?_⟩) s12 ?_
    rotate_left
    · rintro w' ⟨h1, h2, h3, h4, h5, h6, h7, h8⟩; go_simp; (try with_reducible rfl)
    try simp only [Act.put, List.getElem_toArray, List.getElem_cons_succ, List.getElem_cons_zero, List.setIfInBounds_toArray, List.set_cons_zero, List.set_cons_succ]
    refine wpAnyL_take (i := 19) (v := ?_) rfl (by kernel_rfl) (by kernel_rfl) (by kernel_rfl) (by kernel_rfl) (by kernel_rfl) (fun _ _ _ h => h) (Or.inl ⟨by kernel_rfl, ?_⟩) s12 ?_
    rotate_left
    · rintro w' ⟨h1, h2, h3, h4, h5, h6, h7, h8⟩; go_simp; (try with_reducible rfl)
    try simp only [Act.put, List.getElem_toArray, List.getElem_cons_succ, List.getElem_cons_zero, List.setIfInBounds_toArray, List.set_cons_zero, List.set_cons_succ]
    refine wpAnyL_one (i := 18) (by kernel_rfl) rfl (fun K hK => ?_)
    go_simp
    refine (qplain (K := 4) (R12.z 9 rfl) (R12.z 8 rfl) (by decide) (by decide) (by decide) (by decide) Ha.out).mono ?_; rintro e w13 ⟨b_pan, A_pan, n_pan, b_pad, A_pad, n_pad, rfl, z_pan, z_pad, hb13⟩
    have R13 := (((R12.below hb13).add z_pan).add z_pad)
    have s13 := And.intro (R13.cell 2 0 rfl rfl) (And.intro (R13.cell 2 1 rfl rfl) (And.intro (R13.cell 2 2 rfl rfl) (And.intro (R13.cell 2 3 rfl rfl) (And.intro (R13.cell 1 0 rfl rfl) (And.intro (R13.cell 1 1 rfl rfl) (And.intro (R13.cell 1 2 rfl rfl) (R13.cell 1 3 rfl rfl)))))))
    clear z_pan z_pad hb13 R12 s12
    go_wp2_with fail
    refine hK.out _ _ (fun _ => s13) ?_
    clear hK K
    try simp only [Act.put, List.getElem_toArray, List.getElem_cons_succ, List.getElem_cons_zero, List.setIfInBounds_toArray, List.set_cons_zero, List.set_cons_succ]
    refine wpAnyL_one (i := 20) (by kernel_rfl) rfl (fun K hK => ?_)
    go_simp
    refine (qplain (K := 4) (R13.z 9 rfl) (R13.z 8 rfl) (by decide) (by decide) (by decide) (by decide) Hb.out).mono ?_; rintro e w14 ⟨b_pbn, A_pbn, n_pbn, b_pbd, A_pbd, n_pbd, rfl, z_pbn, z_pbd, hb14⟩
    have R14 := (((R13.below hb14).add z_pbn).add z_pbd)
    have s14 := And.intro (R14.cell 2 0 rfl rfl) (And.intro (R14.cell 2 1 rfl rfl) (And.intro (R14.cell 2 2 rfl rfl) (And.intro (R14.cell 2 3 rfl rfl) (And.intro (R14.cell 1 0 rfl rfl) (And.intro (R14.cell 1 1 rfl rfl) (And.intro (R14.cell 1 2 rfl rfl) (R14.cell 1 3 rfl rfl)))))))
    clear z_pbn z_pbd hb14 R13 s13
    go_wp2_with fail
    refine hK.out _ _ (fun _ => s14) ?_
    clear hK K
    try simp only [Act.put, List.getElem_toArray, List.getElem_cons_succ, List.getElem_cons_zero, List.setIfInBounds_toArray, List.set_cons_zero, List.set_cons_succ]
    refine wpAnyL_one (i := 21) (by kernel_rfl) rfl (fun K hK => ?_)
    go_simp
    refine (qcmp_ (k := 4) (R14.z 3 rfl) (R14.z 2 rfl) (R14.z 1 rfl) (R14.z 0 rfl) (by decide) (by decide) (by decide) (by decide) (by decide) (by decide) (qv_self (ra)) (qv_self (rb)) HX.out).mono ?_; rintro e w15 ⟨rfl, hb15⟩
    have R15 := (R14.below hb15)
    have s15 := And.intro (R15.cell 2 0 rfl rfl) (And.intro (R15.cell 2 1 rfl rfl) (And.intro (R15.cell 2 2 rfl rfl) (And.intro (R15.cell 2 3 rfl rfl) (And.intro (R15.cell 1 0 rfl rfl) (And.intro (R15.cell 1 1 rfl rfl) (And.intro (R15.cell 1 2 rfl rfl) (R15.cell 1 3 rfl rfl)))))))
    clear hb15 R14 s14
    go_wp2_with fail
    refine hK.out _ _ (fun _ => s15) ?_
    clear hK K
    try simp only [Act.put, List.getElem_toArray, List.getElem_cons_succ, List.getElem_cons_zero, List.setIfInBounds_toArray, List.set_cons_zero, List.set_cons_succ]
    refine wpAnyL_take (i := 22) (v := ?_) rfl (by kernel_rfl) (by kernel_rfl) (by kernel_rfl) (by kernel_rfl) (by kernel_rfl) (fun _ _ _ h => h) (Or.inl ⟨by kernel_rfl, ?_⟩) s15 ?_
    rotate_left
    · rintro w' ⟨h1, h2, h3, h4, h5, h6, h7, h8⟩; go_simp; (try with_reducible rfl)
    try simp only [Act.put, List.getElem_toArray, List.getElem_cons_succ, List.getElem_cons_zero, List.setIfInBounds_toArray, List.set_cons_zero, List.set_cons_succ]
    refine wpAnyL_take (i := 23) (v := ?_) rfl (by kernel_rfl) (by kernel_rfl) (by kernel_rfl) (by kernel_rfl) (by kernel_rfl) (fun _ _ _ h => h) (Or.inl ⟨by kernel_rfl, ?_⟩) s15 ?_
    rotate_left
    · rintro w' ⟨h1, h2, h3, h4, h5, h6, h7, h8⟩; go_simp; (try with_reducible rfl)
    try simp only [Act.put, List.getElem_toArray, List.getElem_cons_succ, List.getElem_cons_zero, List.setIfInBounds_toArray, List.set_cons_zero, List.set_cons_succ]
    refine wpAnyL_done (by kernel_rfl) ?_ _
    rcases (Hy.out ▸ qcmp_cases rb rc : y = -1 ∨ y = 0 ∨ y = 1) with rfl | rfl | rfl
    · rcases (Hz.out ▸ qcmp_cases ra rc : z = -1 ∨ z = 0 ∨ z = 1) with rfl | rfl | rfl
      · skip
        go_wp2_with fail
        have D16 := R15.drew
        have s16 := And.intro (D16.cell 2 0 rfl rfl) (And.intro (D16.cell 2 1 rfl rfl) (And.intro (D16.cell 2 2 rfl rfl) (And.intro (D16.cell 2 3 rfl rfl) (And.intro (D16.cell 1 0 rfl rfl) (And.intro (D16.cell 1 1 rfl rfl) (And.intro (D16.cell 1 2 rfl rfl) (D16.cell 1 3 rfl rfl)))))))
        refine wp_region_late [] (fun w' => w'.cell? ⟨w.heap.size, 0, none⟩ = some (.bool ba) ∧ w'.cell? ⟨w.heap.size, 1, none⟩ = some (.slice Aa na ca) ∧ w'.cell? ⟨w.heap.size, 2, none⟩ = some (.bool ba') ∧ w'.cell? ⟨w.heap.size, 3, none⟩ = some (.slice Aa' na' ca') ∧ w'.cell? ⟨w.heap.size + 1, 0, none⟩ = some (.bool bb) ∧ w'.cell? ⟨w.heap.size + 1, 1, none⟩ = some (.slice Ab nb cb) ∧ w'.cell? ⟨w.heap.size + 1, 2, none⟩ = some (.bool bb') ∧ w'.cell? ⟨w.heap.size + 1, 3, none⟩ = some (.slice Ab' nb' cb')) (by kernel_rfl) ?_
        refine wpAnyL_take (i := 0) (v := ?_) rfl (by kernel_rfl) (by kernel_rfl) (by kernel_rfl) (by kernel_rfl) (by kernel_rfl) (fun _ _ _ h => h) (Or.inl ⟨by kernel_rfl, ?_⟩) s16 ?_
        rotate_left
        · rintro w' ⟨h1, h2, h3, h4, h5, h6, h7, h8⟩; go_simp; (try with_reducible rfl)
        try simp only [Act.put, List.getElem_toArray, List.getElem_cons_succ, List.getElem_cons_zero, List.setIfInBounds_toArray, List.set_cons_zero, List.set_cons_succ]
        refine wpAnyL_take (i := 1) (v := ?_) rfl (by kernel_rfl) (by kernel_rfl) (by kernel_rfl) (by kernel_rfl) (by kernel_rfl) (fun _ _ _ h => h) (Or.inl ⟨by kernel_rfl, ?_⟩) s16 ?_
        rotate_left
        · rintro w' ⟨h1, h2, h3, h4, h5, h6, h7, h8⟩; go_simp; (try with_reducible rfl)
        try simp only [Act.put, List.getElem_toArray, List.getElem_cons_succ, List.getElem_cons_zero, List.setIfInBounds_toArray, List.set_cons_zero, List.set_cons_succ]
        refine wpAnyL_take (i := 2) (v := ?_) rfl (by kernel_rfl) (by kernel_rfl) (by kernel_rfl) (by kernel_rfl) (by kernel_rfl) (fun _ _ _ h => h) (Or.inl ⟨by kernel_rfl, ?_⟩) s16 ?_
        rotate_left
        · rintro w' ⟨h1, h2, h3, h4, h5, h6, h7, h8⟩; go_simp; (try with_reducible rfl)
        try simp only [Act.put, List.getElem_toArray, List.getElem_cons_succ, List.getElem_cons_zero, List.setIfInBounds_toArray, List.set_cons_zero, List.set_cons_succ]
        refine wpAnyL_take (i := 4) (v := ?_) rfl (by kernel_rfl) (by kernel_rfl) (by kernel_rfl) (by kernel_rfl) (by kernel_rfl) (fun _ _ _ h => h) (Or.inl ⟨by kernel_rfl, ?_⟩) s16 ?_
        rotate_left
        · rintro w' ⟨h1, h2, h3, h4, h5, h6, h7, h8⟩; go_simp; (try with_reducible rfl)
        try simp only [Act.put, List.getElem_toArray, List.getElem_cons_succ, List.getElem_cons_zero, List.setIfInBounds_toArray, List.set_cons_zero, List.set_cons_succ]
        refine wpAnyL_one (i := 3) (by kernel_rfl) rfl (fun K hK => ?_)
        go_simp
        refine (qplain (K := 4) (D16.z 13 rfl) (D16.z 12 rfl) (by decide) (by decide) (by decide) (by decide) Ha.out).mono ?_; rintro e w17 ⟨b_uan, A_uan, n_uan, b_uad, A_uad, n_uad, rfl, z_uan, z_uad, hb17⟩
        have R17 := (((D16.below hb17).add z_uan).add z_uad)
        have s17 := And.intro (R17.cell 2 0 rfl rfl) (And.intro (R17.cell 2 1 rfl rfl) (And.intro (R17.cell 2 2 rfl rfl) (And.intro (R17.cell 2 3 rfl rfl) (And.intro (R17.cell 1 0 rfl rfl) (And.intro (R17.cell 1 1 rfl rfl) (And.intro (R17.cell 1 2 rfl rfl) (R17.cell 1 3 rfl rfl)))))))
        clear z_uan z_uad hb17 D16 s16
        go_wp2_with fail
        refine hK.out _ _ (fun _ => s17) ?_
        clear hK K
        try simp only [Act.put, List.getElem_toArray, List.getElem_cons_succ, List.getElem_cons_zero, List.setIfInBounds_toArray, List.set_cons_zero, List.set_cons_succ]
        refine wpAnyL_one (i := 5) (by kernel_rfl) rfl (fun K hK => ?_)
        go_simp
        refine (qplain (K := 4) (R17.z 13 rfl) (R17.z 12 rfl) (by decide) (by decide) (by decide) (by decide) Hb.out).mono ?_; rintro e w18 ⟨b_ubn, A_ubn, n_ubn, b_ubd, A_ubd, n_ubd, rfl, z_ubn, z_ubd, hb18⟩
        have R18 := (((R17.below hb18).add z_ubn).add z_ubd)
        have s18 := And.intro (R18.cell 2 0 rfl rfl) (And.intro (R18.cell 2 1 rfl rfl) (And.intro (R18.cell 2 2 rfl rfl) (And.intro (R18.cell 2 3 rfl rfl) (And.intro (R18.cell 1 0 rfl rfl) (And.intro (R18.cell 1 1 rfl rfl) (And.intro (R18.cell 1 2 rfl rfl) (R18.cell 1 3 rfl rfl)))))))
        clear z_ubn z_ubd hb18 R17 s17
        go_wp2_with fail
        refine hK.out _ _ (fun _ => s18) ?_
        clear hK K
        try simp only [Act.put, List.getElem_toArray, List.getElem_cons_succ, List.getElem_cons_zero, List.setIfInBounds_toArray, List.set_cons_zero, List.set_cons_succ]
        refine wpAnyL_one (i := 6) (by kernel_rfl) rfl (fun K hK => ?_)
        go_simp
        refine (rqsame (R18.z 3 rfl) (R18.z 2 rfl) (R18.z 1 rfl) (R18.z 0 rfl) (by decide) (by decide) (by decide) (by decide) (qsame_dec ra rb (decide_eq_false (fun e => absurd (HX.out.symm.trans (qcmp_eq.2 e)) (by decide))))).mono ?_; rintro e w19 ⟨rfl, hb19⟩
        have R19 := (R18.below hb19)
        have s19 := And.intro (R19.cell 2 0 rfl rfl) (And.intro (R19.cell 2 1 rfl rfl) (And.intro (R19.cell 2 2 rfl rfl) (And.intro (R19.cell 2 3 rfl rfl) (And.intro (R19.cell 1 0 rfl rfl) (And.intro (R19.cell 1 1 rfl rfl) (And.intro (R19.cell 1 2 rfl rfl) (R19.cell 1 3 rfl rfl)))))))
        clear hb19 R18 s18
        go_wp2_with fail
        refine hK.out _ _ (fun _ => s19) ?_
        clear hK K
        try simp only [Act.put, List.getElem_toArray, List.getElem_cons_succ, List.getElem_cons_zero, List.setIfInBounds_toArray, List.set_cons_zero, List.set_cons_succ]
        refine wpAnyL_take (i := 7) (v := ?_) rfl (by kernel_rfl) (by kernel_rfl) (by kernel_rfl) (by kernel_rfl) (by kernel_rfl) (fun _ _ _ h => h) (Or.inl ⟨by kernel_rfl, ?_⟩) s19 ?_
        rotate_left
        · rintro w' ⟨h1, h2, h3, h4, h5, h6, h7, h8⟩; go_simp; (try with_reducible rfl)
        try simp only [Act.put, List.getElem_toArray, List.getElem_cons_succ, List.getElem_cons_zero, List.setIfInBounds_toArray, List.set_cons_zero, List.set_cons_succ]
        refine wpAnyL_one (i := 8) (by kernel_rfl) rfl (fun K hK => ?_)
        go_simp
        refine hK.out _ _ (fun _ => s19) ?_
        clear hK K
        try simp only [Act.put, List.getElem_toArray, List.getElem_cons_succ, List.getElem_cons_zero, List.setIfInBounds_toArray, List.set_cons_zero, List.set_cons_succ]
        refine wpAnyL_done (by kernel_rfl) ?_ _
        go_wp2_with fail
        go_ret
        exact ⟨rfl, R19.bel⟩
      · skip
        go_wp2_with fail
        have D16 := R15.drew
        have s16 := And.intro (D16.cell 2 0 rfl rfl) (And.intro (D16.cell 2 1 rfl rfl) (And.intro (D16.cell 2 2 rfl rfl) (And.intro (D16.cell 2 3 rfl rfl) (And.intro (D16.cell 1 0 rfl rfl) (And.intro (D16.cell 1 1 rfl rfl) (And.intro (D16.cell 1 2 rfl rfl) (D16.cell 1 3 rfl rfl)))))))
        refine wp_region_late [] (fun w' => w'.cell? ⟨w.heap.size, 0, none⟩ = some (.bool ba) ∧ w'.cell? ⟨w.heap.size, 1, none⟩ = some (.slice Aa na ca) ∧ w'.cell? ⟨w.heap.size, 2, none⟩ = some (.bool ba') ∧ w'.cell? ⟨w.heap.size, 3, none⟩ = some (.slice Aa' na' ca') ∧ w'.cell? ⟨w.heap.size + 1, 0, none⟩ = some (.bool bb) ∧ w'.cell? ⟨w.heap.size + 1, 1, none⟩ = some (.slice Ab nb cb) ∧ w'.cell? ⟨w.heap.size + 1, 2, none⟩ = some (.bool bb') ∧ w'.cell? ⟨w.heap.size + 1, 3, none⟩ = some (.slice Ab' nb' cb')) (by kernel_rfl) ?_
        refine wpAnyL_take (i := 0) (v := ?_) rfl (by kernel_rfl) (by kernel_rfl) (by kernel_rfl) (by kernel_rfl) (by kernel_rfl) (fun _ _ _ h => h) (Or.inl ⟨by kernel_rfl, ?_⟩) s16 ?_
        rotate_left
        · rintro w' ⟨h1, h2, h3, h4, h5, h6, h7, h8⟩; go_simp; (try with_reducible rfl)
        try simp only [Act.put, List.getElem_toArray, List.getElem_cons_succ, List.getElem_cons_zero, List.setIfInBounds_toArray, List.set_cons_zero, List.set_cons_succ]
        refine wpAnyL_take (i := 1) (v := ?_) rfl (by kernel_rfl) (by kernel_rfl) (by kernel_rfl) (by kernel_rfl) (by kernel_rfl) (fun _ _ _ h => h) (Or.inl ⟨by kernel_rfl, ?_⟩) s16 ?_
        rotate_left
        · rintro w' ⟨h1, h2, h3, h4, h5, h6, h7, h8⟩; go_simp; (try with_reducible rfl)
        try simp only [Act.put, List.getElem_toArray, List.getElem_cons_succ, List.getElem_cons_zero, List.setIfInBounds_toArray, List.set_cons_zero, List.set_cons_succ]
        refine wpAnyL_take (i := 2) (v := ?_) rfl (by kernel_rfl) (by kernel_rfl) (by kernel_rfl) (by kernel_rfl) (by kernel_rfl) (fun _ _ _ h => h) (Or.inl ⟨by kernel_rfl, ?_⟩) s16 ?_
        rotate_left
        · rintro w' ⟨h1, h2, h3, h4, h5, h6, h7, h8⟩; go_simp; (try with_reducible rfl)
        try simp only [Act.put, List.getElem_toArray, List.getElem_cons_succ, List.getElem_cons_zero, List.setIfInBounds_toArray, List.set_cons_zero, List.set_cons_succ]
        refine wpAnyL_take (i := 4) (v := ?_) rfl (by kernel_rfl) (by kernel_rfl) (by kernel_rfl) (by kernel_rfl) (by kernel_rfl) (fun _ _ _ h => h) (Or.inl ⟨by kernel_rfl, ?_⟩) s16 ?_
        rotate_left
        · rintro w' ⟨h1, h2, h3, h4, h5, h6, h7, h8⟩; go_simp; (try with_reducible rfl)
        try simp only [Act.put, List.getElem_toArray, List.getElem_cons_succ, List.getElem_cons_zero, List.setIfInBounds_toArray, List.set_cons_zero, List.set_cons_succ]
        refine wpAnyL_one (i := 3) (by kernel_rfl) rfl (fun K hK => ?_)
        go_simp
        refine (qplain (K := 4) (D16.z 13 rfl) (D16.z 12 rfl) (by decide) (by decide) (by decide) (by decide) Ha.out).mono ?_; rintro e w17 ⟨b_uan, A_uan, n_uan, b_uad, A_uad, n_uad, rfl, z_uan, z_uad, hb17⟩
        have R17 := (((D16.below hb17).add z_uan).add z_uad)
        have s17 := And.intro (R17.cell 2 0 rfl rfl) (And.intro (R17.cell 2 1 rfl rfl) (And.intro (R17.cell 2 2 rfl rfl) (And.intro (R17.cell 2 3 rfl rfl) (And.intro (R17.cell 1 0 rfl rfl) (And.intro (R17.cell 1 1 rfl rfl) (And.intro (R17.cell 1 2 rfl rfl) (R17.cell 1 3 rfl rfl)))))))
        clear z_uan z_uad hb17 D16 s16
        go_wp2_with fail
        refine hK.out _ _ (fun _ => s17) ?_
        clear hK K
        try simp only [Act.put, List.getElem_toArray, List.getElem_cons_succ, List.getElem_cons_zero, List.setIfInBounds_toArray, List.set_cons_zero, List.set_cons_succ]
        refine wpAnyL_one (i := 5) (by kernel_rfl) rfl (fun K hK => ?_)
        go_simp
        refine (qplain (K := 4) (R17.z 13 rfl) (R17.z 12 rfl) (by decide) (by decide) (by decide) (by decide) Hb.out).mono ?_; rintro e w18 ⟨b_ubn, A_ubn, n_ubn, b_ubd, A_ubd, n_ubd, rfl, z_ubn, z_ubd, hb18⟩
        have R18 := (((R17.below hb18).add z_ubn).add z_ubd)
        have s18 := And.intro (R18.cell 2 0 rfl rfl) (And.intro (R18.cell 2 1 rfl rfl) (And.intro (R18.cell 2 2 rfl rfl) (And.intro (R18.cell 2 3 rfl rfl) (And.intro (R18.cell 1 0 rfl rfl) (And.intro (R18.cell 1 1 rfl rfl) (And.intro (R18.cell 1 2 rfl rfl) (R18.cell 1 3 rfl rfl)))))))
        clear z_ubn z_ubd hb18 R17 s17
        go_wp2_with fail
        refine hK.out _ _ (fun _ => s18) ?_
        clear hK K
        try simp only [Act.put, List.getElem_toArray, List.getElem_cons_succ, List.getElem_cons_zero, List.setIfInBounds_toArray, List.set_cons_zero, List.set_cons_succ]
        refine wpAnyL_one (i := 6) (by kernel_rfl) rfl (fun K hK => ?_)
        go_simp
        refine (rqsame (R18.z 3 rfl) (R18.z 2 rfl) (R18.z 1 rfl) (R18.z 0 rfl) (by decide) (by decide) (by decide) (by decide) (qsame_dec ra rb (decide_eq_false (fun e => absurd (HX.out.symm.trans (qcmp_eq.2 e)) (by decide))))).mono ?_; rintro e w19 ⟨rfl, hb19⟩
        have R19 := (R18.below hb19)
        have s19 := And.intro (R19.cell 2 0 rfl rfl) (And.intro (R19.cell 2 1 rfl rfl) (And.intro (R19.cell 2 2 rfl rfl) (And.intro (R19.cell 2 3 rfl rfl) (And.intro (R19.cell 1 0 rfl rfl) (And.intro (R19.cell 1 1 rfl rfl) (And.intro (R19.cell 1 2 rfl rfl) (R19.cell 1 3 rfl rfl)))))))
        clear hb19 R18 s18
        go_wp2_with fail
        refine hK.out _ _ (fun _ => s19) ?_
        clear hK K
        try simp only [Act.put, List.getElem_toArray, List.getElem_cons_succ, List.getElem_cons_zero, List.setIfInBounds_toArray, List.set_cons_zero, List.set_cons_succ]
        refine wpAnyL_take (i := 7) (v := ?_) rfl (by kernel_rfl) (by kernel_rfl) (by kernel_rfl) (by kernel_rfl) (by kernel_rfl) (fun _ _ _ h => h) (Or.inl ⟨by kernel_rfl, ?_⟩) s19 ?_
        rotate_left
        · rintro w' ⟨h1, h2, h3, h4, h5, h6, h7, h8⟩; go_simp; (try with_reducible rfl)
        try simp only [Act.put, List.getElem_toArray, List.getElem_cons_succ, List.getElem_cons_zero, List.setIfInBounds_toArray, List.set_cons_zero, List.set_cons_succ]
        refine wpAnyL_one (i := 8) (by kernel_rfl) rfl (fun K hK => ?_)
        go_simp
        refine hK.out _ _ (fun _ => s19) ?_
        clear hK K
        try simp only [Act.put, List.getElem_toArray, List.getElem_cons_succ, List.getElem_cons_zero, List.setIfInBounds_toArray, List.set_cons_zero, List.set_cons_succ]
        refine wpAnyL_done (by kernel_rfl) ?_ _
        go_wp2_with fail
        go_ret
        exact ⟨rfl, R19.bel⟩
      · exact absurd (qtri_lo HX.out Hy.out Hz.out (by decide) (by decide)) (by decide)
    · rcases (Hz.out ▸ qcmp_cases ra rc : z = -1 ∨ z = 0 ∨ z = 1) with rfl | rfl | rfl
      · skip
        go_wp2_with fail
        have D16 := R15.drew
        have s16 := And.intro (D16.cell 2 0 rfl rfl) (And.intro (D16.cell 2 1 rfl rfl) (And.intro (D16.cell 2 2 rfl rfl) (And.intro (D16.cell 2 3 rfl rfl) (And.intro (D16.cell 1 0 rfl rfl) (And.intro (D16.cell 1 1 rfl rfl) (And.intro (D16.cell 1 2 rfl rfl) (D16.cell 1 3 rfl rfl)))))))
        refine wp_region_late [] (fun w' => w'.cell? ⟨w.heap.size, 0, none⟩ = some (.bool ba) ∧ w'.cell? ⟨w.heap.size, 1, none⟩ = some (.slice Aa na ca) ∧ w'.cell? ⟨w.heap.size, 2, none⟩ = some (.bool ba') ∧ w'.cell? ⟨w.heap.size, 3, none⟩ = some (.slice Aa' na' ca') ∧ w'.cell? ⟨w.heap.size + 1, 0, none⟩ = some (.bool bb) ∧ w'.cell? ⟨w.heap.size + 1, 1, none⟩ = some (.slice Ab nb cb) ∧ w'.cell? ⟨w.heap.size + 1, 2, none⟩ = some (.bool bb') ∧ w'.cell? ⟨w.heap.size + 1, 3, none⟩ = some (.slice Ab' nb' cb')) (by kernel_rfl) ?_
        refine wpAnyL_take (i := 0) (v := ?_) rfl (by kernel_rfl) (by kernel_rfl) (by kernel_rfl) (by kernel_rfl) (by kernel_rfl) (fun _ _ _ h => h) (Or.inl ⟨by kernel_rfl, ?_⟩) s16 ?_
        rotate_left
        · rintro w' ⟨h1, h2, h3, h4, h5, h6, h7, h8⟩; go_simp; (try with_reducible rfl)
        try simp only [Act.put, List.getElem_toArray, List.getElem_cons_succ, List.getElem_cons_zero, List.setIfInBounds_toArray, List.set_cons_zero, List.set_cons_succ]
        refine wpAnyL_take (i := 1) (v := ?_) rfl (by kernel_rfl) (by kernel_rfl) (by kernel_rfl) (by kernel_rfl) (by kernel_rfl) (fun _ _ _ h => h) (Or.inl ⟨by kernel_rfl, ?_⟩) s16 ?_
        rotate_left
        · rintro w' ⟨h1, h2, h3, h4, h5, h6, h7, h8⟩; go_simp; (try with_reducible rfl)
        try simp only [Act.put, List.getElem_toArray, List.getElem_cons_succ, List.getElem_cons_zero, List.setIfInBounds_toArray, List.set_cons_zero, List.set_cons_succ]
        refine wpAnyL_take (i := 2) (v := ?_) rfl (by kernel_rfl) (by kernel_rfl) (by kernel_rfl) (by kernel_rfl) (by kernel_rfl) (fun _ _ _ h => h) (Or.inl ⟨by kernel_rfl, ?_⟩) s16 ?_
        rotate_left
        · rintro w' ⟨h1, h2, h3, h4, h5, h6, h7, h8⟩; go_simp; (try with_reducible rfl)
        try simp only [Act.put, List.getElem_toArray, List.getElem_cons_succ, List.getElem_cons_zero, List.setIfInBounds_toArray, List.set_cons_zero, List.set_cons_succ]
        refine wpAnyL_take (i := 4) (v := ?_) rfl (by kernel_rfl) (by kernel_rfl) (by kernel_rfl) (by kernel_rfl) (by kernel_rfl) (fun _ _ _ h => h) (Or.inl ⟨by kernel_rfl, ?_⟩) s16 ?_
        rotate_left
        · rintro w' ⟨h1, h2, h3, h4, h5, h6, h7, h8⟩; go_simp; (try with_reducible rfl)
        try simp only [Act.put, List.getElem_toArray, List.getElem_cons_succ, List.getElem_cons_zero, List.setIfInBounds_toArray, List.set_cons_zero, List.set_cons_succ]
        refine wpAnyL_one (i := 3) (by kernel_rfl) rfl (fun K hK => ?_)
        go_simp
        refine (qplain (K := 4) (D16.z 13 rfl) (D16.z 12 rfl) (by decide) (by decide) (by decide) (by decide) Ha.out).mono ?_; rintro e w17 ⟨b_uan, A_uan, n_uan, b_uad, A_uad, n_uad, rfl, z_uan, z_uad, hb17⟩
        have R17 := (((D16.below hb17).add z_uan).add z_uad)
        have s17 := And.intro (R17.cell 2 0 rfl rfl) (And.intro (R17.cell 2 1 rfl rfl) (And.intro (R17.cell 2 2 rfl rfl) (And.intro (R17.cell 2 3 rfl rfl) (And.intro (R17.cell 1 0 rfl rfl) (And.intro (R17.cell 1 1 rfl rfl) (And.intro (R17.cell 1 2 rfl rfl) (R17.cell 1 3 rfl rfl)))))))
        clear z_uan z_uad hb17 D16 s16
        go_wp2_with fail
        refine hK.out _ _ (fun _ => s17) ?_
        clear hK K
        try simp only [Act.put, List.getElem_toArray, List.getElem_cons_succ, List.getElem_cons_zero, List.setIfInBounds_toArray, List.set_cons_zero, List.set_cons_succ]
        refine wpAnyL_one (i := 5) (by kernel_rfl) rfl (fun K hK => ?_)
        go_simp
        refine (qplain (K := 4) (R17.z 13 rfl) (R17.z 12 rfl) (by decide) (by decide) (by decide) (by decide) Hb.out).mono ?_; rintro e w18 ⟨b_ubn, A_ubn, n_ubn, b_ubd, A_ubd, n_ubd, rfl, z_ubn, z_ubd, hb18⟩
        have R18 := (((R17.below hb18).add z_ubn).add z_ubd)
        have s18 := And.intro (R18.cell 2 0 rfl rfl) (And.intro (R18.cell 2 1 rfl rfl) (And.intro (R18.cell 2 2 rfl rfl) (And.intro (R18.cell 2 3 rfl rfl) (And.intro (R18.cell 1 0 rfl rfl) (And.intro (R18.cell 1 1 rfl rfl) (And.intro (R18.cell 1 2 rfl rfl) (R18.cell 1 3 rfl rfl)))))))
        clear z_ubn z_ubd hb18 R17 s17
        go_wp2_with fail
        refine hK.out _ _ (fun _ => s18) ?_
        clear hK K
        try simp only [Act.put, List.getElem_toArray, List.getElem_cons_succ, List.getElem_cons_zero, List.setIfInBounds_toArray, List.set_cons_zero, List.set_cons_succ]
        refine wpAnyL_one (i := 6) (by kernel_rfl) rfl (fun K hK => ?_)
        go_simp
        refine (rqsame (R18.z 3 rfl) (R18.z 2 rfl) (R18.z 1 rfl) (R18.z 0 rfl) (by decide) (by decide) (by decide) (by decide) (qsame_dec ra rb (decide_eq_false (fun e => absurd (HX.out.symm.trans (qcmp_eq.2 e)) (by decide))))).mono ?_; rintro e w19 ⟨rfl, hb19⟩
        have R19 := (R18.below hb19)
        have s19 := And.intro (R19.cell 2 0 rfl rfl) (And.intro (R19.cell 2 1 rfl rfl) (And.intro (R19.cell 2 2 rfl rfl) (And.intro (R19.cell 2 3 rfl rfl) (And.intro (R19.cell 1 0 rfl rfl) (And.intro (R19.cell 1 1 rfl rfl) (And.intro (R19.cell 1 2 rfl rfl) (R19.cell 1 3 rfl rfl)))))))
        clear hb19 R18 s18
        go_wp2_with fail
        refine hK.out _ _ (fun _ => s19) ?_
        clear hK K
        try simp only [Act.put, List.getElem_toArray, List.getElem_cons_succ, List.getElem_cons_zero, List.setIfInBounds_toArray, List.set_cons_zero, List.set_cons_succ]
        refine wpAnyL_take (i := 7) (v := ?_) rfl (by kernel_rfl) (by kernel_rfl) (by kernel_rfl) (by kernel_rfl) (by kernel_rfl) (fun _ _ _ h => h) (Or.inl ⟨by kernel_rfl, ?_⟩) s19 ?_
        rotate_left
        · rintro w' ⟨h1, h2, h3, h4, h5, h6, h7, h8⟩; go_simp; (try with_reducible rfl)
        try simp only [Act.put, List.getElem_toArray, List.getElem_cons_succ, List.getElem_cons_zero, List.setIfInBounds_toArray, List.set_cons_zero, List.set_cons_succ]
        refine wpAnyL_one (i := 8) (by kernel_rfl) rfl (fun K hK => ?_)
        go_simp
        refine hK.out _ _ (fun _ => s19) ?_
        clear hK K
        try simp only [Act.put, List.getElem_toArray, List.getElem_cons_succ, List.getElem_cons_zero, List.setIfInBounds_toArray, List.set_cons_zero, List.set_cons_succ]
        refine wpAnyL_done (by kernel_rfl) ?_ _
        go_wp2_with fail
        go_ret
        exact ⟨rfl, R19.bel⟩
      · skip
        go_wp2_with fail
        have D16 := R15.drew
        have s16 := And.intro (D16.cell 2 0 rfl rfl) (And.intro (D16.cell 2 1 rfl rfl) (And.intro (D16.cell 2 2 rfl rfl) (And.intro (D16.cell 2 3 rfl rfl) (And.intro (D16.cell 1 0 rfl rfl) (And.intro (D16.cell 1 1 rfl rfl) (And.intro (D16.cell 1 2 rfl rfl) (D16.cell 1 3 rfl rfl)))))))
        refine wp_region_late [] (fun w' => w'.cell? ⟨w.heap.size, 0, none⟩ = some (.bool ba) ∧ w'.cell? ⟨w.heap.size, 1, none⟩ = some (.slice Aa na ca) ∧ w'.cell? ⟨w.heap.size, 2, none⟩ = some (.bool ba') ∧ w'.cell? ⟨w.heap.size, 3, none⟩ = some (.slice Aa' na' ca') ∧ w'.cell? ⟨w.heap.size + 1, 0, none⟩ = some (.bool bb) ∧ w'.cell? ⟨w.heap.size + 1, 1, none⟩ = some (.slice Ab nb cb) ∧ w'.cell? ⟨w.heap.size + 1, 2, none⟩ = some (.bool bb') ∧ w'.cell? ⟨w.heap.size + 1, 3, none⟩ = some (.slice Ab' nb' cb')) (by kernel_rfl) ?_
        refine wpAnyL_take (i := 0) (v := ?_) rfl (by kernel_rfl) (by kernel_rfl) (by kernel_rfl) (by kernel_rfl) (by kernel_rfl) (fun _ _ _ h => h) (Or.inl ⟨by kernel_rfl, ?_⟩) s16 ?_
        rotate_left
        · rintro w' ⟨h1, h2, h3, h4, h5, h6, h7, h8⟩; go_simp; (try with_reducible rfl)
        try simp only [Act.put, List.getElem_toArray, List.getElem_cons_succ, List.getElem_cons_zero, List.setIfInBounds_toArray, List.set_cons_zero, List.set_cons_succ]
        refine wpAnyL_take (i := 1) (v := ?_) rfl (by kernel_rfl) (by kernel_rfl) (by kernel_rfl) (by kernel_rfl) (by kernel_rfl) (fun _ _ _ h => h) (Or.inl ⟨by kernel_rfl, ?_⟩) s16 ?_
        rotate_left
        · rintro w' ⟨h1, h2, h3, h4, h5, h6, h7, h8⟩; go_simp; (try with_reducible rfl)
        try simp only [Act.put, List.getElem_toArray, List.getElem_cons_succ, List.getElem_cons_zero, List.setIfInBounds_toArray, List.set_cons_zero, List.set_cons_succ]
        refine wpAnyL_take (i := 2) (v := ?_) rfl (by kernel_rfl) (by kernel_rfl) (by kernel_rfl) (by kernel_rfl) (by kernel_rfl) (fun _ _ _ h => h) (Or.inl ⟨by kernel_rfl, ?_⟩) s16 ?_
        rotate_left
        · rintro w' ⟨h1, h2, h3, h4, h5, h6, h7, h8⟩; go_simp; (try with_reducible rfl)
        try simp only [Act.put, List.getElem_toArray, List.getElem_cons_succ, List.getElem_cons_zero, List.setIfInBounds_toArray, List.set_cons_zero, List.set_cons_succ]
        refine wpAnyL_take (i := 4) (v := ?_) rfl (by kernel_rfl) (by kernel_rfl) (by kernel_rfl) (by kernel_rfl) (by kernel_rfl) (fun _ _ _ h => h) (Or.inl ⟨by kernel_rfl, ?_⟩) s16 ?_
        rotate_left
        · rintro w' ⟨h1, h2, h3, h4, h5, h6, h7, h8⟩; go_simp; (try with_reducible rfl)
        try simp only [Act.put, List.getElem_toArray, List.getElem_cons_succ, List.getElem_cons_zero, List.setIfInBounds_toArray, List.set_cons_zero, List.set_cons_succ]
        refine wpAnyL_one (i := 3) (by kernel_rfl) rfl (fun K hK => ?_)
        go_simp
        refine (qplain (K := 4) (D16.z 13 rfl) (D16.z 12 rfl) (by decide) (by decide) (by decide) (by decide) Ha.out).mono ?_; rintro e w17 ⟨b_uan, A_uan, n_uan, b_uad, A_uad, n_uad, rfl, z_uan, z_uad, hb17⟩
        have R17 := (((D16.below hb17).add z_uan).add z_uad)
        have s17 := And.intro (R17.cell 2 0 rfl rfl) (And.intro (R17.cell 2 1 rfl rfl) (And.intro (R17.cell 2 2 rfl rfl) (And.intro (R17.cell 2 3 rfl rfl) (And.intro (R17.cell 1 0 rfl rfl) (And.intro (R17.cell 1 1 rfl rfl) (And.intro (R17.cell 1 2 rfl rfl) (R17.cell 1 3 rfl rfl)))))))
        clear z_uan z_uad hb17 D16 s16
        go_wp2_with fail
        refine hK.out _ _ (fun _ => s17) ?_
        clear hK K
        try simp only [Act.put, List.getElem_toArray, List.getElem_cons_succ, List.getElem_cons_zero, List.setIfInBounds_toArray, List.set_cons_zero, List.set_cons_succ]
        refine wpAnyL_one (i := 5) (by kernel_rfl) rfl (fun K hK => ?_)
        go_simp
        refine (qplain (K := 4) (R17.z 13 rfl) (R17.z 12 rfl) (by decide) (by decide) (by decide) (by decide) Hb.out).mono ?_; rintro e w18 ⟨b_ubn, A_ubn, n_ubn, b_ubd, A_ubd, n_ubd, rfl, z_ubn, z_ubd, hb18⟩
        have R18 := (((R17.below hb18).add z_ubn).add z_ubd)
        have s18 := And.intro (R18.cell 2 0 rfl rfl) (And.intro (R18.cell 2 1 rfl rfl) (And.intro (R18.cell 2 2 rfl rfl) (And.intro (R18.cell 2 3 rfl rfl) (And.intro (R18.cell 1 0 rfl rfl) (And.intro (R18.cell 1 1 rfl rfl) (And.intro (R18.cell 1 2 rfl rfl) (R18.cell 1 3 rfl rfl)))))))
        clear z_ubn z_ubd hb18 R17 s17
        go_wp2_with fail
        refine hK.out _ _ (fun _ => s18) ?_
        clear hK K
        try simp only [Act.put, List.getElem_toArray, List.getElem_cons_succ, List.getElem_cons_zero, List.setIfInBounds_toArray, List.set_cons_zero, List.set_cons_succ]
        refine wpAnyL_one (i := 6) (by kernel_rfl) rfl (fun K hK => ?_)
        go_simp
        refine (rqsame (R18.z 3 rfl) (R18.z 2 rfl) (R18.z 1 rfl) (R18.z 0 rfl) (by decide) (by decide) (by decide) (by decide) (qsame_dec ra rb (decide_eq_false (fun e => absurd (HX.out.symm.trans (qcmp_eq.2 e)) (by decide))))).mono ?_; rintro e w19 ⟨rfl, hb19⟩
        have R19 := (R18.below hb19)
        have s19 := And.intro (R19.cell 2 0 rfl rfl) (And.intro (R19.cell 2 1 rfl rfl) (And.intro (R19.cell 2 2 rfl rfl) (And.intro (R19.cell 2 3 rfl rfl) (And.intro (R19.cell 1 0 rfl rfl) (And.intro (R19.cell 1 1 rfl rfl) (And.intro (R19.cell 1 2 rfl rfl) (R19.cell 1 3 rfl rfl)))))))
        clear hb19 R18 s18
        go_wp2_with fail
        refine hK.out _ _ (fun _ => s19) ?_
        clear hK K
        try simp only [Act.put, List.getElem_toArray, List.getElem_cons_succ, List.getElem_cons_zero, List.setIfInBounds_toArray, List.set_cons_zero, List.set_cons_succ]
        refine wpAnyL_take (i := 7) (v := ?_) rfl (by kernel_rfl) (by kernel_rfl) (by kernel_rfl) (by kernel_rfl) (by kernel_rfl) (fun _ _ _ h => h) (Or.inl ⟨by kernel_rfl, ?_⟩) s19 ?_
        rotate_left
        · rintro w' ⟨h1, h2, h3, h4, h5, h6, h7, h8⟩; go_simp; (try with_reducible rfl)
        try simp only [Act.put, List.getElem_toArray, List.getElem_cons_succ, List.getElem_cons_zero, List.setIfInBounds_toArray, List.set_cons_zero, List.set_cons_succ]
        refine wpAnyL_one (i := 8) (by kernel_rfl) rfl (fun K hK => ?_)
        go_simp
        refine hK.out _ _ (fun _ => s19) ?_
        clear hK K
        try simp only [Act.put, List.getElem_toArray, List.getElem_cons_succ, List.getElem_cons_zero, List.setIfInBounds_toArray, List.set_cons_zero, List.set_cons_succ]
        refine wpAnyL_done (by kernel_rfl) ?_ _
        go_wp2_with fail
        go_ret
        exact ⟨rfl, R19.bel⟩
      · exact absurd (qtri_lo HX.out Hy.out Hz.out (by decide) (by decide)) (by decide)
    · rcases (Hz.out ▸ qcmp_cases ra rc : z = -1 ∨ z = 0 ∨ z = 1) with rfl | rfl | rfl
      · skip
        go_wp2_with fail
        have D16 := R15.drew
        have s16 := And.intro (D16.cell 2 0 rfl rfl) (And.intro (D16.cell 2 1 rfl rfl) (And.intro (D16.cell 2 2 rfl rfl) (And.intro (D16.cell 2 3 rfl rfl) (And.intro (D16.cell 1 0 rfl rfl) (And.intro (D16.cell 1 1 rfl rfl) (And.intro (D16.cell 1 2 rfl rfl) (D16.cell 1 3 rfl rfl)))))))
        refine wp_region_late [] (fun w' => w'.cell? ⟨w.heap.size, 0, none⟩ = some (.bool ba) ∧ w'.cell? ⟨w.heap.size, 1, none⟩ = some (.slice Aa na ca) ∧ w'.cell? ⟨w.heap.size, 2, none⟩ = some (.bool ba') ∧ w'.cell? ⟨w.heap.size, 3, none⟩ = some (.slice Aa' na' ca') ∧ w'.cell? ⟨w.heap.size + 1, 0, none⟩ = some (.bool bb) ∧ w'.cell? ⟨w.heap.size + 1, 1, none⟩ = some (.slice Ab nb cb) ∧ w'.cell? ⟨w.heap.size + 1, 2, none⟩ = some (.bool bb') ∧ w'.cell? ⟨w.heap.size + 1, 3, none⟩ = some (.slice Ab' nb' cb')) (by kernel_rfl) ?_
        refine wpAnyL_take (i := 0) (v := ?_) rfl (by kernel_rfl) (by kernel_rfl) (by kernel_rfl) (by kernel_rfl) (by kernel_rfl) (fun _ _ _ h => h) (Or.inl ⟨by kernel_rfl, ?_⟩) s16 ?_
        rotate_left
        · rintro w' ⟨h1, h2, h3, h4, h5, h6, h7, h8⟩; go_simp; (try with_reducible rfl)
        try simp only [Act.put, List.getElem_toArray, List.getElem_cons_succ, List.getElem_cons_zero, List.setIfInBounds_toArray, List.set_cons_zero, List.set_cons_succ]
        refine wpAnyL_take (i := 1) (v := ?_) rfl (by kernel_rfl) (by kernel_rfl) (by kernel_rfl) (by kernel_rfl) (by kernel_rfl) (fun _ _ _ h => h) (Or.inl ⟨by kernel_rfl, ?_⟩) s16 ?_
        rotate_left
        · rintro w' ⟨h1, h2, h3, h4, h5, h6, h7, h8⟩; go_simp; (try with_reducible rfl)
        try simp only [Act.put, List.getElem_toArray, List.getElem_cons_succ, List.getElem_cons_zero, List.setIfInBounds_toArray, List.set_cons_zero, List.set_cons_succ]
        refine wpAnyL_take (i := 2) (v := ?_) rfl (by kernel_rfl) (by kernel_rfl) (by kernel_rfl) (by kernel_rfl) (by kernel_rfl) (fun _ _ _ h => h) (Or.inl ⟨by kernel_rfl, ?_⟩) s16 ?_
        rotate_left
        · rintro w' ⟨h1, h2, h3, h4, h5, h6, h7, h8⟩; go_simp; (try with_reducible rfl)
        try simp only [Act.put, List.getElem_toArray, List.getElem_cons_succ, List.getElem_cons_zero, List.setIfInBounds_toArray, List.set_cons_zero, List.set_cons_succ]
        refine wpAnyL_take (i := 4) (v := ?_) rfl (by kernel_rfl) (by kernel_rfl) (by kernel_rfl) (by kernel_rfl) (by kernel_rfl) (fun _ _ _ h => h) (Or.inl ⟨by kernel_rfl, ?_⟩) s16 ?_
        rotate_left
        · rintro w' ⟨h1, h2, h3, h4, h5, h6, h7, h8⟩; go_simp; (try with_reducible rfl)
        try simp only [Act.put, List.getElem_toArray, List.getElem_cons_succ, List.getElem_cons_zero, List.setIfInBounds_toArray, List.set_cons_zero, List.set_cons_succ]
        refine wpAnyL_one (i := 3) (by kernel_rfl) rfl (fun K hK => ?_)
        go_simp
        refine (qplain (K := 4) (D16.z 13 rfl) (D16.z 12 rfl) (by decide) (by decide) (by decide) (by decide) Ha.out).mono ?_; rintro e w17 ⟨b_uan, A_uan, n_uan, b_uad, A_uad, n_uad, rfl, z_uan, z_uad, hb17⟩
        have R17 := (((D16.below hb17).add z_uan).add z_uad)
        have s17 := And.intro (R17.cell 2 0 rfl rfl) (And.intro (R17.cell 2 1 rfl rfl) (And.intro (R17.cell 2 2 rfl rfl) (And.intro (R17.cell 2 3 rfl rfl) (And.intro (R17.cell 1 0 rfl rfl) (And.intro (R17.cell 1 1 rfl rfl) (And.intro (R17.cell 1 2 rfl rfl) (R17.cell 1 3 rfl rfl)))))))
        clear z_uan z_uad hb17 D16 s16
        go_wp2_with fail
        refine hK.out _ _ (fun _ => s17) ?_
        clear hK K
        try simp only [Act.put, List.getElem_toArray, List.getElem_cons_succ, List.getElem_cons_zero, List.setIfInBounds_toArray, List.set_cons_zero, List.set_cons_succ]
        refine wpAnyL_one (i := 5) (by kernel_rfl) rfl (fun K hK => ?_)
        go_simp
        refine (qplain (K := 4) (R17.z 13 rfl) (R17.z 12 rfl) (by decide) (by decide) (by decide) (by decide) Hb.out).mono ?_; rintro e w18 ⟨b_ubn, A_ubn, n_ubn, b_ubd, A_ubd, n_ubd, rfl, z_ubn, z_ubd, hb18⟩
        have R18 := (((R17.below hb18).add z_ubn).add z_ubd)
        have s18 := And.intro (R18.cell 2 0 rfl rfl) (And.intro (R18.cell 2 1 rfl rfl) (And.intro (R18.cell 2 2 rfl rfl) (And.intro (R18.cell 2 3 rfl rfl) (And.intro (R18.cell 1 0 rfl rfl) (And.intro (R18.cell 1 1 rfl rfl) (And.intro (R18.cell 1 2 rfl rfl) (R18.cell 1 3 rfl rfl)))))))
        clear z_ubn z_ubd hb18 R17 s17
        go_wp2_with fail
        refine hK.out _ _ (fun _ => s18) ?_
        clear hK K
        try simp only [Act.put, List.getElem_toArray, List.getElem_cons_succ, List.getElem_cons_zero, List.setIfInBounds_toArray, List.set_cons_zero, List.set_cons_succ]
        refine wpAnyL_one (i := 6) (by kernel_rfl) rfl (fun K hK => ?_)
        go_simp
        refine (rqsame (R18.z 3 rfl) (R18.z 2 rfl) (R18.z 1 rfl) (R18.z 0 rfl) (by decide) (by decide) (by decide) (by decide) (qsame_dec ra rb (decide_eq_false (fun e => absurd (HX.out.symm.trans (qcmp_eq.2 e)) (by decide))))).mono ?_; rintro e w19 ⟨rfl, hb19⟩
        have R19 := (R18.below hb19)
        have s19 := And.intro (R19.cell 2 0 rfl rfl) (And.intro (R19.cell 2 1 rfl rfl) (And.intro (R19.cell 2 2 rfl rfl) (And.intro (R19.cell 2 3 rfl rfl) (And.intro (R19.cell 1 0 rfl rfl) (And.intro (R19.cell 1 1 rfl rfl) (And.intro (R19.cell 1 2 rfl rfl) (R19.cell 1 3 rfl rfl)))))))
        clear hb19 R18 s18
        go_wp2_with fail
        refine hK.out _ _ (fun _ => s19) ?_
        clear hK K
        try simp only [Act.put, List.getElem_toArray, List.getElem_cons_succ, List.getElem_cons_zero, List.setIfInBounds_toArray, List.set_cons_zero, List.set_cons_succ]
        refine wpAnyL_take (i := 7) (v := ?_) rfl (by kernel_rfl) (by kernel_rfl) (by kernel_rfl) (by kernel_rfl) (by kernel_rfl) (fun _ _ _ h => h) (Or.inl ⟨by kernel_rfl, ?_⟩) s19 ?_
        rotate_left
        · rintro w' ⟨h1, h2, h3, h4, h5, h6, h7, h8⟩; go_simp; (try with_reducible rfl)
        try simp only [Act.put, List.getElem_toArray, List.getElem_cons_succ, List.getElem_cons_zero, List.setIfInBounds_toArray, List.set_cons_zero, List.set_cons_succ]
        refine wpAnyL_one (i := 8) (by kernel_rfl) rfl (fun K hK => ?_)
        go_simp
        refine hK.out _ _ (fun _ => s19) ?_
        clear hK K
        try simp only [Act.put, List.getElem_toArray, List.getElem_cons_succ, List.getElem_cons_zero, List.setIfInBounds_toArray, List.set_cons_zero, List.set_cons_succ]
        refine wpAnyL_done (by kernel_rfl) ?_ _
        go_wp2_with fail
        go_ret
        exact ⟨rfl, R19.bel⟩
      · skip
        go_wp2_with fail
        have D16 := R15.drew
        have s16 := And.intro (D16.cell 2 0 rfl rfl) (And.intro (D16.cell 2 1 rfl rfl) (And.intro (D16.cell 2 2 rfl rfl) (And.intro (D16.cell 2 3 rfl rfl) (And.intro (D16.cell 1 0 rfl rfl) (And.intro (D16.cell 1 1 rfl rfl) (And.intro (D16.cell 1 2 rfl rfl) (D16.cell 1 3 rfl rfl)))))))
        refine wp_region_late [] (fun w' => w'.cell? ⟨w.heap.size, 0, none⟩ = some (.bool ba) ∧ w'.cell? ⟨w.heap.size, 1, none⟩ = some (.slice Aa na ca) ∧ w'.cell? ⟨w.heap.size, 2, none⟩ = some (.bool ba') ∧ w'.cell? ⟨w.heap.size, 3, none⟩ = some (.slice Aa' na' ca') ∧ w'.cell? ⟨w.heap.size + 1, 0, none⟩ = some (.bool bb) ∧ w'.cell? ⟨w.heap.size + 1, 1, none⟩ = some (.slice Ab nb cb) ∧ w'.cell? ⟨w.heap.size + 1, 2, none⟩ = some (.bool bb') ∧ w'.cell? ⟨w.heap.size + 1, 3, none⟩ = some (.slice Ab' nb' cb')) (by kernel_rfl) ?_
        refine wpAnyL_take (i := 0) (v := ?_) rfl (by kernel_rfl) (by kernel_rfl) (by kernel_rfl) (by kernel_rfl) (by kernel_rfl) (fun _ _ _ h => h) (Or.inl ⟨by kernel_rfl, ?_⟩) s16 ?_
        rotate_left
        · rintro w' ⟨h1, h2, h3, h4, h5, h6, h7, h8⟩; go_simp; (try with_reducible rfl)
        try simp only [Act.put, List.getElem_toArray, List.getElem_cons_succ, List.getElem_cons_zero, List.setIfInBounds_toArray, List.set_cons_zero, List.set_cons_succ]
        refine wpAnyL_take (i := 1) (v := ?_) rfl (by kernel_rfl) (by kernel_rfl) (by kernel_rfl) (by kernel_rfl) (by kernel_rfl) (fun _ _ _ h => h) (Or.inl ⟨by kernel_rfl, ?_⟩) s16 ?_
        rotate_left
        · rintro w' ⟨h1, h2, h3, h4, h5, h6, h7, h8⟩; go_simp; (try with_reducible rfl)
        try simp only [Act.put, List.getElem_toArray, List.getElem_cons_succ, List.getElem_cons_zero, List.setIfInBounds_toArray, List.set_cons_zero, List.set_cons_succ]
        refine wpAnyL_take (i := 2) (v := ?_) rfl (by kernel_rfl) (by kernel_rfl) (by kernel_rfl) (by kernel_rfl) (by kernel_rfl) (fun _ _ _ h => h) (Or.inl ⟨by kernel_rfl, ?_⟩) s16 ?_
        rotate_left
        · rintro w' ⟨h1, h2, h3, h4, h5, h6, h7, h8⟩; go_simp; (try with_reducible rfl)
        try simp only [Act.put, List.getElem_toArray, List.getElem_cons_succ, List.getElem_cons_zero, List.setIfInBounds_toArray, List.set_cons_zero, List.set_cons_succ]
        refine wpAnyL_take (i := 4) (v := ?_) rfl (by kernel_rfl) (by kernel_rfl) (by kernel_rfl) (by kernel_rfl) (by kernel_rfl) (fun _ _ _ h => h) (Or.inl ⟨by kernel_rfl, ?_⟩) s16 ?_
        rotate_left
        · rintro w' ⟨h1, h2, h3, h4, h5, h6, h7, h8⟩; go_simp; (try with_reducible rfl)
        try simp only [Act.put, List.getElem_toArray, List.getElem_cons_succ, List.getElem_cons_zero, List.setIfInBounds_toArray, List.set_cons_zero, List.set_cons_succ]
        refine wpAnyL_one (i := 3) (by kernel_rfl) rfl (fun K hK => ?_)
        go_simp
        refine (qplain (K := 4) (D16.z 13 rfl) (D16.z 12 rfl) (by decide) (by decide) (by decide) (by decide) Ha.out).mono ?_; rintro e w17 ⟨b_uan, A_uan, n_uan, b_uad, A_uad, n_uad, rfl, z_uan, z_uad, hb17⟩
        have R17 := (((D16.below hb17).add z_uan).add z_uad)
        have s17 := And.intro (R17.cell 2 0 rfl rfl) (And.intro (R17.cell 2 1 rfl rfl) (And.intro (R17.cell 2 2 rfl rfl) (And.intro (R17.cell 2 3 rfl rfl) (And.intro (R17.cell 1 0 rfl rfl) (And.intro (R17.cell 1 1 rfl rfl) (And.intro (R17.cell 1 2 rfl rfl) (R17.cell 1 3 rfl rfl)))))))
        clear z_uan z_uad hb17 D16 s16
        go_wp2_with fail
        refine hK.out _ _ (fun _ => s17) ?_
        clear hK K
        try simp only [Act.put, List.getElem_toArray, List.getElem_cons_succ, List.getElem_cons_zero, List.setIfInBounds_toArray, List.set_cons_zero, List.set_cons_succ]
        refine wpAnyL_one (i := 5) (by kernel_rfl) rfl (fun K hK => ?_)
        go_simp
        refine (qplain (K := 4) (R17.z 13 rfl) (R17.z 12 rfl) (by decide) (by decide) (by decide) (by decide) Hb.out).mono ?_; rintro e w18 ⟨b_ubn, A_ubn, n_ubn, b_ubd, A_ubd, n_ubd, rfl, z_ubn, z_ubd, hb18⟩
        have R18 := (((R17.below hb18).add z_ubn).add z_ubd)
        have s18 := And.intro (R18.cell 2 0 rfl rfl) (And.intro (R18.cell 2 1 rfl rfl) (And.intro (R18.cell 2 2 rfl rfl) (And.intro (R18.cell 2 3 rfl rfl) (And.intro (R18.cell 1 0 rfl rfl) (And.intro (R18.cell 1 1 rfl rfl) (And.intro (R18.cell 1 2 rfl rfl) (R18.cell 1 3 rfl rfl)))))))
        clear z_ubn z_ubd hb18 R17 s17
        go_wp2_with fail
        refine hK.out _ _ (fun _ => s18) ?_
        clear hK K
        try simp only [Act.put, List.getElem_toArray, List.getElem_cons_succ, List.getElem_cons_zero, List.setIfInBounds_toArray, List.set_cons_zero, List.set_cons_succ]
        refine wpAnyL_one (i := 6) (by kernel_rfl) rfl (fun K hK => ?_)
        go_simp
        refine (rqsame (R18.z 3 rfl) (R18.z 2 rfl) (R18.z 1 rfl) (R18.z 0 rfl) (by decide) (by decide) (by decide) (by decide) (qsame_dec ra rb (decide_eq_false (fun e => absurd (HX.out.symm.trans (qcmp_eq.2 e)) (by decide))))).mono ?_; rintro e w19 ⟨rfl, hb19⟩
        have R19 := (R18.below hb19)
        have s19 := And.intro (R19.cell 2 0 rfl rfl) (And.intro (R19.cell 2 1 rfl rfl) (And.intro (R19.cell 2 2 rfl rfl) (And.intro (R19.cell 2 3 rfl rfl) (And.intro (R19.cell 1 0 rfl rfl) (And.intro (R19.cell 1 1 rfl rfl) (And.intro (R19.cell 1 2 rfl rfl) (R19.cell 1 3 rfl rfl)))))))
        clear hb19 R18 s18
        go_wp2_with fail
        refine hK.out _ _ (fun _ => s19) ?_
        clear hK K
        try simp only [Act.put, List.getElem_toArray, List.getElem_cons_succ, List.getElem_cons_zero, List.setIfInBounds_toArray, List.set_cons_zero, List.set_cons_succ]
        refine wpAnyL_take (i := 7) (v := ?_) rfl (by kernel_rfl) (by kernel_rfl) (by kernel_rfl) (by kernel_rfl) (by kernel_rfl) (fun _ _ _ h => h) (Or.inl ⟨by kernel_rfl, ?_⟩) s19 ?_
        rotate_left
        · rintro w' ⟨h1, h2, h3, h4, h5, h6, h7, h8⟩; go_simp; (try with_reducible rfl)
        try simp only [Act.put, List.getElem_toArray, List.getElem_cons_succ, List.getElem_cons_zero, List.setIfInBounds_toArray, List.set_cons_zero, List.set_cons_succ]
        refine wpAnyL_one (i := 8) (by kernel_rfl) rfl (fun K hK => ?_)
        go_simp
        refine hK.out _ _ (fun _ => s19) ?_
        clear hK K
        try simp only [Act.put, List.getElem_toArray, List.getElem_cons_succ, List.getElem_cons_zero, List.setIfInBounds_toArray, List.set_cons_zero, List.set_cons_succ]
        refine wpAnyL_done (by kernel_rfl) ?_ _
        go_wp2_with fail
        go_ret
        exact ⟨rfl, R19.bel⟩
      · skip
        go_wp2_with fail
        have D16 := R15.drew
        have s16 := And.intro (D16.cell 2 0 rfl rfl) (And.intro (D16.cell 2 1 rfl rfl) (And.intro (D16.cell 2 2 rfl rfl) (And.intro (D16.cell 2 3 rfl rfl) (And.intro (D16.cell 1 0 rfl rfl) (And.intro (D16.cell 1 1 rfl rfl) (And.intro (D16.cell 1 2 rfl rfl) (D16.cell 1 3 rfl rfl)))))))
        refine wp_region_late [] (fun w' => w'.cell? ⟨w.heap.size, 0, none⟩ = some (.bool ba) ∧ w'.cell? ⟨w.heap.size, 1, none⟩ = some (.slice Aa na ca) ∧ w'.cell? ⟨w.heap.size, 2, none⟩ = some (.bool ba') ∧ w'.cell? ⟨w.heap.size, 3, none⟩ = some (.slice Aa' na' ca') ∧ w'.cell? ⟨w.heap.size + 1, 0, none⟩ = some (.bool bb) ∧ w'.cell? ⟨w.heap.size + 1, 1, none⟩ = some (.slice Ab nb cb) ∧ w'.cell? ⟨w.heap.size + 1, 2, none⟩ = some (.bool bb') ∧ w'.cell? ⟨w.heap.size + 1, 3, none⟩ = some (.slice Ab' nb' cb')) (by kernel_rfl) ?_
        refine wpAnyL_take (i := 0) (v := ?_) rfl (by kernel_rfl) (by kernel_rfl) (by kernel_rfl) (by kernel_rfl) (by kernel_rfl) (fun _ _ _ h => h) (Or.inl ⟨by kernel_rfl, ?_⟩) s16 ?_
        rotate_left
        · rintro w' ⟨h1, h2, h3, h4, h5, h6, h7, h8⟩; go_simp; (try with_reducible rfl)
        try simp only [Act.put, List.getElem_toArray, List.getElem_cons_succ, List.getElem_cons_zero, List.setIfInBounds_toArray, List.set_cons_zero, List.set_cons_succ]
        refine wpAnyL_take (i := 1) (v := ?_) rfl (by kernel_rfl) (by kernel_rfl) (by kernel_rfl) (by kernel_rfl) (by kernel_rfl) (fun _ _ _ h => h) (Or.inl ⟨by kernel_rfl, ?_⟩) s16 ?_
        rotate_left
        · rintro w' ⟨h1, h2, h3, h4, h5, h6, h7, h8⟩; go_simp; (try with_reducible rfl)
        try simp only [Act.put, List.getElem_toArray, List.getElem_cons_succ, List.getElem_cons_zero, List.setIfInBounds_toArray, List.set_cons_zero, List.set_cons_succ]
        refine wpAnyL_take (i := 2) (v := ?_) rfl (by kernel_rfl) (by kernel_rfl) (by kernel_rfl) (by kernel_rfl) (by kernel_rfl) (fun _ _ _ h => h) (Or.inl ⟨by kernel_rfl, ?_⟩) s16 ?_
        rotate_left
        · rintro w' ⟨h1, h2, h3, h4, h5, h6, h7, h8⟩; go_simp; (try with_reducible rfl)
        try simp only [Act.put, List.getElem_toArray, List.getElem_cons_succ, List.getElem_cons_zero, List.setIfInBounds_toArray, List.set_cons_zero, List.set_cons_succ]
        refine wpAnyL_take (i := 4) (v := ?_) rfl (by kernel_rfl) (by kernel_rfl) (by kernel_rfl) (by kernel_rfl) (by kernel_rfl) (fun _ _ _ h => h) (Or.inl ⟨by kernel_rfl, ?_⟩) s16 ?_
        rotate_left
        · rintro w' ⟨h1, h2, h3, h4, h5, h6, h7, h8⟩; go_simp; (try with_reducible rfl)
        try simp only [Act.put, List.getElem_toArray, List.getElem_cons_succ, List.getElem_cons_zero, List.setIfInBounds_toArray, List.set_cons_zero, List.set_cons_succ]
        refine wpAnyL_one (i := 3) (by kernel_rfl) rfl (fun K hK => ?_)
        go_simp
        refine (qplain (K := 4) (D16.z 13 rfl) (D16.z 12 rfl) (by decide) (by decide) (by decide) (by decide) Ha.out).mono ?_; rintro e w17 ⟨b_uan, A_uan, n_uan, b_uad, A_uad, n_uad, rfl, z_uan, z_uad, hb17⟩
        have R17 := (((D16.below hb17).add z_uan).add z_uad)
        have s17 := And.intro (R17.cell 2 0 rfl rfl) (And.intro (R17.cell 2 1 rfl rfl) (And.intro (R17.cell 2 2 rfl rfl) (And.intro (R17.cell 2 3 rfl rfl) (And.intro (R17.cell 1 0 rfl rfl) (And.intro (R17.cell 1 1 rfl rfl) (And.intro (R17.cell 1 2 rfl rfl) (R17.cell 1 3 rfl rfl)))))))
        clear z_uan z_uad hb17 D16 s16
        go_wp2_with fail
        refine hK.out _ _ (fun _ => s17) ?_
        clear hK K
        try simp only [Act.put, List.getElem_toArray, List.getElem_cons_succ, List.getElem_cons_zero, List.setIfInBounds_toArray, List.set_cons_zero, List.set_cons_succ]
        refine wpAnyL_one (i := 5) (by kernel_rfl) rfl (fun K hK => ?_)
        go_simp
        refine (qplain (K := 4) (R17.z 13 rfl) (R17.z 12 rfl) (by decide) (by decide) (by decide) (by decide) Hb.out).mono ?_; rintro e w18 ⟨b_ubn, A_ubn, n_ubn, b_ubd, A_ubd, n_ubd, rfl, z_ubn, z_ubd, hb18⟩
        have R18 := (((R17.below hb18).add z_ubn).add z_ubd)
        have s18 := And.intro (R18.cell 2 0 rfl rfl) (And.intro (R18.cell 2 1 rfl rfl) (And.intro (R18.cell 2 2 rfl rfl) (And.intro (R18.cell 2 3 rfl rfl) (And.intro (R18.cell 1 0 rfl rfl) (And.intro (R18.cell 1 1 rfl rfl) (And.intro (R18.cell 1 2 rfl rfl) (R18.cell 1 3 rfl rfl)))))))
        clear z_ubn z_ubd hb18 R17 s17
        go_wp2_with fail
        refine hK.out _ _ (fun _ => s18) ?_
        clear hK K
        try simp only [Act.put, List.getElem_toArray, List.getElem_cons_succ, List.getElem_cons_zero, List.setIfInBounds_toArray, List.set_cons_zero, List.set_cons_succ]
        refine wpAnyL_one (i := 6) (by kernel_rfl) rfl (fun K hK => ?_)
        go_simp
        refine (rqsame (R18.z 3 rfl) (R18.z 2 rfl) (R18.z 1 rfl) (R18.z 0 rfl) (by decide) (by decide) (by decide) (by decide) (qsame_dec ra rb (decide_eq_false (fun e => absurd (HX.out.symm.trans (qcmp_eq.2 e)) (by decide))))).mono ?_; rintro e w19 ⟨rfl, hb19⟩
        have R19 := (R18.below hb19)
        have s19 := And.intro (R19.cell 2 0 rfl rfl) (And.intro (R19.cell 2 1 rfl rfl) (And.intro (R19.cell 2 2 rfl rfl) (And.intro (R19.cell 2 3 rfl rfl) (And.intro (R19.cell 1 0 rfl rfl) (And.intro (R19.cell 1 1 rfl rfl) (And.intro (R19.cell 1 2 rfl rfl) (R19.cell 1 3 rfl rfl)))))))
        clear hb19 R18 s18
        go_wp2_with fail
        refine hK.out _ _ (fun _ => s19) ?_
        clear hK K
        try simp only [Act.put, List.getElem_toArray, List.getElem_cons_succ, List.getElem_cons_zero, List.setIfInBounds_toArray, List.set_cons_zero, List.set_cons_succ]
        refine wpAnyL_take (i := 7) (v := ?_) rfl (by kernel_rfl) (by kernel_rfl) (by kernel_rfl) (by kernel_rfl) (by kernel_rfl) (fun _ _ _ h => h) (Or.inl ⟨by kernel_rfl, ?_⟩) s19 ?_
        rotate_left
        · rintro w' ⟨h1, h2, h3, h4, h5, h6, h7, h8⟩; go_simp; (try with_reducible rfl)
        try simp only [Act.put, List.getElem_toArray, List.getElem_cons_succ, List.getElem_cons_zero, List.setIfInBounds_toArray, List.set_cons_zero, List.set_cons_succ]
        refine wpAnyL_one (i := 8) (by kernel_rfl) rfl (fun K hK => ?_)
        go_simp
        refine hK.out _ _ (fun _ => s19) ?_
        clear hK K
        try simp only [Act.put, List.getElem_toArray, List.getElem_cons_succ, List.getElem_cons_zero, List.setIfInBounds_toArray, List.set_cons_zero, List.set_cons_succ]
        refine wpAnyL_done (by kernel_rfl) ?_ _
        go_wp2_with fail
        go_ret
        exact ⟨rfl, R19.bel⟩
  · have HX := Lib.hid hx
    clear hx
    go_enter Tryz.func6, Tryz.ntmps6
    go_wp2_with fail
    refine (qawake_any _).mono ?_; rintro e w1 ⟨rfl, hb1⟩
    have R1 := (R0.below hb1)
    clear hb1 R0
    have k2a0 := R1.cell 2 0 rfl rfl
    have k2a1 := R1.cell 2 1 rfl rfl
    have k2a2 := R1.cell 2 2 rfl rfl
    have k2a3 := R1.cell 2 3 rfl rfl
    go_wp2_with fail
    clear k2a0 k2a1 k2a2 k2a3
    refine (qfew _ _ _ _ _ _ _ _ _).mono ?_; rintro e w2 ⟨rfl, hb2⟩
    have R2 := (R1.below hb2)
    clear hb2 R1
    rw [decide_eq_true hfa.out]
    have k3b0 := R2.cell 1 0 rfl rfl
    have k3b1 := R2.cell 1 1 rfl rfl
    have k3b2 := R2.cell 1 2 rfl rfl
    have k3b3 := R2.cell 1 3 rfl rfl
    go_wp2_with fail
    clear k3b0 k3b1 k3b2 k3b3
    refine (qfew _ _ _ _ _ _ _ _ _).mono ?_; rintro e w3 ⟨rfl, hb3⟩
    have R3 := (R2.below hb3)
    clear hb3 R2
    rw [decide_eq_true hfb.out]
    have k4c0 := R3.cell 0 0 rfl rfl
    have k4c1 := R3.cell 0 1 rfl rfl
    have k4c2 := R3.cell 0 2 rfl rfl
    have k4c3 := R3.cell 0 3 rfl rfl
    go_wp2_with fail
    clear k4c0 k4c1 k4c2 k4c3
    refine (qfew _ _ _ _ _ _ _ _ _).mono ?_; rintro e w4 ⟨rfl, hb4⟩
    have R4 := (R3.below hb4)
    clear hb4 R3
    rw [decide_eq_true hfc.out]
    have k5a0 := R4.cell 2 0 rfl rfl
    have k5a1 := R4.cell 2 1 rfl rfl
    have k5a2 := R4.cell 2 2 rfl rfl
    have k5a3 := R4.cell 2 3 rfl rfl
    have k5b0 := R4.cell 1 0 rfl rfl
    have k5b1 := R4.cell 1 1 rfl rfl
    have k5b2 := R4.cell 1 2 rfl rfl
    have k5b3 := R4.cell 1 3 rfl rfl
    go_wp2_with fail
    clear k5a0 k5a1 k5a2 k5a3 k5b0 k5b1 k5b2 k5b3
    refine (qcmp_ (k := 4) (R4.z 5 rfl) (R4.z 4 rfl) (R4.z 3 rfl) (R4.z 2 rfl) (by decide) (by decide) (by decide) (by decide) (by decide) (by decide) Ha.out Hb.out HX.out).mono ?_; rintro e w5 ⟨rfl, hb5⟩
    have R5 := (R4.below hb5)
    clear hb5 R4
    have k6b0 := R5.cell 1 0 rfl rfl
    have k6b1 := R5.cell 1 1 rfl rfl
    have k6b2 := R5.cell 1 2 rfl rfl
    have k6b3 := R5.cell 1 3 rfl rfl
    have k6c0 := R5.cell 0 0 rfl rfl
    have k6c1 := R5.cell 0 1 rfl rfl
    have k6c2 := R5.cell 0 2 rfl rfl
    have k6c3 := R5.cell 0 3 rfl rfl
    go_wp2_with fail
    clear k6b0 k6b1 k6b2 k6b3 k6c0 k6c1 k6c2 k6c3
    refine (qcmp_ (k := 4) (R5.z 3 rfl) (R5.z 2 rfl) (R5.z 1 rfl) (R5.z 0 rfl) (by decide) (by decide) (by decide) (by decide) (by decide) (by decide) Hb.out Hc.out Hy.out).mono ?_; rintro e w6 ⟨rfl, hb6⟩
    have R6 := (R5.below hb6)
    clear hb6 R5
    have k7a0 := R6.cell 2 0 rfl rfl
    have k7a1 := R6.cell 2 1 rfl rfl
    have k7a2 := R6.cell 2 2 rfl rfl
    have k7a3 := R6.cell 2 3 rfl rfl
    have k7c0 := R6.cell 0 0 rfl rfl
    have k7c1 := R6.cell 0 1 rfl rfl
    have k7c2 := R6.cell 0 2 rfl rfl
    have k7c3 := R6.cell 0 3 rfl rfl
    go_wp2_with fail
    clear k7a0 k7a1 k7a2 k7a3 k7c0 k7c1 k7c2 k7c3
    refine (qcmp_ (k := 4) (R6.z 5 rfl) (R6.z 4 rfl) (R6.z 1 rfl) (R6.z 0 rfl) (by decide) (by decide) (by decide) (by decide) (by decide) (by decide) Ha.out Hc.out Hz.out).mono ?_; rintro e w7 ⟨rfl, hb7⟩
    have R7 := (R6.below hb7)
    clear hb7 R6
    go_wp2_with fail
    have D8 := R7.drew
    have s8 := And.intro (D8.cell 2 0 rfl rfl) (And.intro (D8.cell 2 1 rfl rfl) (And.intro (D8.cell 2 2 rfl rfl) (And.intro (D8.cell 2 3 rfl rfl) (And.intro (D8.cell 1 0 rfl rfl) (And.intro (D8.cell 1 1 rfl rfl) (And.intro (D8.cell 1 2 rfl rfl) (D8.cell 1 3 rfl rfl)))))))
    refine wp_region_late [] (fun w' => w'.cell? ⟨w.heap.size, 0, none⟩ = some (.bool ba) ∧ w'.cell? ⟨w.heap.size, 1, none⟩ = some (.slice Aa na ca) ∧ w'.cell? ⟨w.heap.size, 2, none⟩ = some (.bool ba') ∧ w'.cell? ⟨w.heap.size, 3, none⟩ = some (.slice Aa' na' ca') ∧ w'.cell? ⟨w.heap.size + 1, 0, none⟩ = some (.bool bb) ∧ w'.cell? ⟨w.heap.size + 1, 1, none⟩ = some (.slice Ab nb cb) ∧ w'.cell? ⟨w.heap.size + 1, 2, none⟩ = some (.bool bb') ∧ w'.cell? ⟨w.heap.size + 1, 3, none⟩ = some (.slice Ab' nb' cb')) (by kernel_rfl) ?_
    refine wpAnyL_take (i := 0) (v := ?_) rfl (by kernel_rfl) (by kernel_rfl) (by kernel_rfl) (by kernel_rfl) (by kernel_rfl) (fun _ _ _ h => h) (Or.inl ⟨by kernel_rfl, ?_⟩) s8 ?_
    rotate_left
    · rintro w' ⟨h1, h2, h3, h4, h5, h6, h7, h8⟩; go_simp; (try with_reducible rfl)
    try simp only [Act.put, List.getElem_toArray, List.getElem_cons_succ, List.getElem_cons_zero, List.setIfInBounds_toArray, List.set_cons_zero, List.set_cons_succ]
    refine wpAnyL_take (i := 1) (v := ?_) rfl (by kernel_rfl) (by kernel_rfl) (by kernel_rfl) (by kernel_rfl) (by kernel_rfl) (fun _ _ _ h => h) (Or.inl ⟨by kernel_rfl, ?_⟩) s8 ?_
    rotate_left
    · rintro w' ⟨h1, h2, h3, h4, h5, h6, h7, h8⟩; go_simp; (try with_reducible rfl)
    try simp only [Act.put, List.getElem_toArray, List.getElem_cons_succ, List.getElem_cons_zero, List.setIfInBounds_toArray, List.set_cons_zero, List.set_cons_succ]
    refine wpAnyL_take (i := 2) (v := ?_) rfl (by kernel_rfl) (by kernel_rfl) (by kernel_rfl) (by kernel_rfl) (by kernel_rfl) (fun _ _ _ h => h) (Or.inl ⟨by kernel_rfl, ?_⟩) s8 ?_
    rotate_left
    · rintro w' ⟨h1, h2, h3, h4, h5, h6, h7, h8⟩; go_simp; (try with_reducible rfl)
    try simp only [Act.put, List.getElem_toArray, List.getElem_cons_succ, List.getElem_cons_zero, List.setIfInBounds_toArray, List.set_cons_zero, List.set_cons_succ]
    refine wpAnyL_one (i := 3) (by kernel_rfl) rfl (fun K hK => ?_)
    go_simp
    refine (qsub (k := 4) (D8.z 5 rfl) (D8.z 4 rfl) (D8.z 3 rfl) (D8.z 2 rfl) (by decide) (by decide) (by decide) (by decide) (by decide) (by decide) Ha.out Hb.out).mono ?_; rintro e w9 ⟨b_sn, A_sn, n_sn, b_sd, A_sd, n_sd, rfl, z_sn, z_sd, hb9⟩
    have R9 := (((D8.below hb9).add z_sn).add z_sd)
    have s9 := And.intro (R9.cell 2 0 rfl rfl) (And.intro (R9.cell 2 1 rfl rfl) (And.intro (R9.cell 2 2 rfl rfl) (And.intro (R9.cell 2 3 rfl rfl) (And.intro (R9.cell 1 0 rfl rfl) (And.intro (R9.cell 1 1 rfl rfl) (And.intro (R9.cell 1 2 rfl rfl) (R9.cell 1 3 rfl rfl)))))))
    clear z_sn z_sd hb9 D8 s8
    go_wp2_with fail
    refine hK.out _ _ (fun _ => s9) ?_
    clear hK K
    try simp only [Act.put, List.getElem_toArray, List.getElem_cons_succ, List.getElem_cons_zero, List.setIfInBounds_toArray, List.set_cons_zero, List.set_cons_succ]
    refine wpAnyL_one (i := 4) (by kernel_rfl) rfl (fun K hK => ?_)
    go_simp
    refine (rqzero _).mono ?_; rintro e w10 ⟨b_zen, A_zen, n_zen, c_zen, b_zed, A_zed, n_zed, c_zed, rfl, z_zen, z_zed, hb10⟩
    have R10 := (((R9.below hb10).add z_zen).add z_zed)
    have s10 := And.intro (R10.cell 2 0 rfl rfl) (And.intro (R10.cell 2 1 rfl rfl) (And.intro (R10.cell 2 2 rfl rfl) (And.intro (R10.cell 2 3 rfl rfl) (And.intro (R10.cell 1 0 rfl rfl) (And.intro (R10.cell 1 1 rfl rfl) (And.intro (R10.cell 1 2 rfl rfl) (R10.cell 1 3 rfl rfl)))))))
    clear z_zen z_zed hb10 R9 s9
    go_wp2_with fail
    refine hK.out _ _ (fun _ => s10) ?_
    clear hK K
    try simp only [Act.put, List.getElem_toArray, List.getElem_cons_succ, List.getElem_cons_zero, List.setIfInBounds_toArray, List.set_cons_zero, List.set_cons_succ]
    refine wpAnyL_one (i := 5) (by kernel_rfl) rfl (fun K hK => ?_)
    go_simp
    refine (qcmp_ (k := 9) (R10.z 3 rfl) (R10.z 2 rfl) (R10.z 1 rfl) (R10.z 0 rfl) (by decide) (by decide) (by decide) (by decide) (by decide) (by decide) (qv_self ((ra - rb))) (qv_self (0)) ((qcmp_sub ra rb).trans HX.out)).mono ?_; rintro e w11 ⟨rfl, hb11⟩
    have R11 := (R10.below hb11)
    have s11 := And.intro (R11.cell 2 0 rfl rfl) (And.intro (R11.cell 2 1 rfl rfl) (And.intro (R11.cell 2 2 rfl rfl) (And.intro (R11.cell 2 3 rfl rfl) (And.intro (R11.cell 1 0 rfl rfl) (And.intro (R11.cell 1 1 rfl rfl) (And.intro (R11.cell 1 2 rfl rfl) (R11.cell 1 3 rfl rfl)))))))
    clear hb11 R10 s10
    go_wp2_with fail
    refine hK.out _ _ (fun _ => s11) ?_
    clear hK K
    try simp only [Act.put, List.getElem_toArray, List.getElem_cons_succ, List.getElem_cons_zero, List.setIfInBounds_toArray, List.set_cons_zero, List.set_cons_succ]
    refine wpAnyL_take (i := 6) (v := ?_) rfl (by kernel_rfl) (by kernel_rfl) (by kernel_rfl) (by kernel_rfl) (by kernel_rfl) (fun _ _ _ h => h) (Or.inl ⟨by kernel_rfl, ?_⟩) s11 ?_
    rotate_left
    · rintro w' ⟨h1, h2, h3, h4, h5, h6, h7, h8⟩; go_simp; (try with_reducible rfl)
    try simp only [Act.put, List.getElem_toArray, List.getElem_cons_succ, List.getElem_cons_zero, List.setIfInBounds_toArray, List.set_cons_zero, List.set_cons_succ]
    refine wpAnyL_take (i := 7) (v := ?_) rfl (by kernel_rfl) (by kernel_rfl) (by kernel_rfl) (by kernel_rfl) (by kernel_rfl) (fun _ _ _ h => h) (Or.inl ⟨by kernel_rfl, ?_⟩) s11 ?_
    rotate_left
    · rintro w' ⟨h1, h2, h3, h4, h5, h6, h7, h8⟩; go_simp; (try with_reducible rfl)
    try simp only [Act.put, List.getElem_toArray, List.getElem_cons_succ, List.getElem_cons_zero, List.setIfInBounds_toArray, List.set_cons_zero, List.set_cons_succ]
    refine wpAnyL_take (i := 8) (v := ?_) rfl (by kernel_rfl) (by kernel_rfl) (by kernel_rfl) (by kernel_rfl) (by kernel_rfl) (fun _ _ _ h => h) (Or.inl ⟨by kernel_rfl, ?_⟩) s11 ?_
    rotate_left
    · rintro w' ⟨h1, h2, h3, h4, h5, h6, h7, h8⟩; go_simp; (try with_reducible rfl)
    try simp only [Act.put, List.getElem_toArray, List.getElem_cons_succ, List.getElem_cons_zero, List.setIfInBounds_toArray, List.set_cons_zero, List.set_cons_succ]
    refine wpAnyL_take (i := 9) (v := ?_) rfl (by kernel_rfl) (by kernel_rfl) (by kernel_rfl) (by kernel_rfl) (by kernel_rfl) (fun _ _ _ h => h) (Or.inl ⟨by kernel_rfl, ?_⟩) s11 ?_
    rotate_left
    · rintro w' ⟨h1, h2, h3, h4, h5, h6, h7, h8⟩; go_simp; (try with_reducible rfl)
    try simp only [Act.put, List.getElem_toArray, List.getElem_cons_succ, List.getElem_cons_zero, List.setIfInBounds_toArray, List.set_cons_zero, List.set_cons_succ]
    refine wpAnyL_take (i := 10) (v := ?_) rfl (by kernel_rfl) (by kernel_rfl) (by kernel_rfl) (by kernel_rfl) (by kernel_rfl) (fun _ _ _ h => h) (Or.inl ⟨by kernel_rfl, ?_⟩) s11 ?_
    rotate_left
    · rintro w' ⟨h1, h2, h3, h4, h5, h6, h7, h8⟩; go_simp; (try with_reducible rfl)
    try simp only [Act.put, List.getElem_toArray, List.getElem_cons_succ, List.getElem_cons_zero, List.setIfInBounds_toArray, List.set_cons_zero, List.set_cons_succ]
    refine wpAnyL_one (i := 11) (by kernel_rfl) rfl (fun K hK => ?_)
    go_simp
    refine (qcmp_ (k := 4) (R11.z 7 rfl) (R11.z 6 rfl) (R11.z 9 rfl) (R11.z 8 rfl) (by decide) (by decide) (by decide) (by decide) (by decide) (by decide) Hb.out Ha.out (show qcmp rb ra = 0 from by rw [qcmp_swap ra rb, HX.out] <;> rfl)).mono ?_; rintro e w12 ⟨rfl, hb12⟩
    have R12 := (R11.below hb12)
    have s12 := And.intro (R12.cell 2 0 rfl rfl) (And.intro (R12.cell 2 1 rfl rfl) (And.intro (R12.cell 2 2 rfl rfl) (And.intro (R12.cell 2 3 rfl rfl) (And.intro (R12.cell 1 0 rfl rfl) (And.intro (R12.cell 1 1 rfl rfl) (And.intro (R12.cell 1 2 rfl rfl) (R12.cell 1 3 rfl rfl)))))))
    clear hb12 R11 s11
    go_wp2_with fail
    refine hK.out _ _ (fun _ => s12) ?_
    clear hK K
    try simp only [Act.put, List.getElem_toArray, List.getElem_cons_succ, List.getElem_cons_zero, List.setIfInBounds_toArray, List.set_cons_zero, List.set_cons_succ]
    refine wpAnyL_take (i := 12) (v := ?_) rfl (by kernel_rfl) (by kernel_rfl) (by kernel_rfl) (by kernel_rfl) (by kernel_rfl) (fun _ _ _ h => h) (Or.inl ⟨by kernel_rfl, ?_⟩) s12 ?_
    rotate_left
    · rintro w' ⟨h1, h2, h3, h4, h5, h6, h7, h8⟩; go_simp; (try with_reducible rfl)
    try simp only [Act.put, List.getElem_toArray, List.getElem_cons_succ, List.getElem_cons_zero, List.setIfInBounds_toArray, List.set_cons_zero, List.set_cons_succ]
    refine wpAnyL_take (i := 13) (v := ?_) rfl (by kernel_rfl) (by kernel_rfl) (by kernel_rfl) (by kernel_rfl) (by kernel_rfl) (fun _ _ _ h => h) (Or.inl ⟨by kernel_rfl, ?_⟩) s12 ?_
    rotate_left
    · rintro w' ⟨h1, h2, h3, h4, h5, h6, h7, h8⟩; go_simp; (try with_reducible rfl)
    try simp only [Act.put, List.getElem_toArray, List.getElem_cons_succ, List.getElem_cons_zero, List.setIfInBounds_toArray, List.set_cons_zero, List.set_cons_succ]
    refine wpAnyL_take (i := 14) (v := ?_) rfl (by kernel_rfl) (by kernel_rfl) (by kernel_rfl) (by kernel_rfl) (by kernel_rfl) (fun _ _ _ h => h) (Or.inl ⟨by kernel_rfl, ?_⟩) s12 ?_
    rotate_left
    · rintro w' ⟨h1, h2, h3, h4, h5, h6, h7, h8⟩; go_simp; (try with_reducible rfl)
    try simp only [Act.put, List.getElem_toArray, List.getElem_cons_succ, List.getElem_cons_zero, List.setIfInBounds_toArray, List.set_cons_zero, List.set_cons_succ]
    refine wpAnyL_take (i := 15) (v := ?_) rfl (by kernel_rfl) (by kernel_rfl) (by kernel_rfl) (by kernel_rfl) (by kernel_rfl) (fun _ _ _ h => h) (Or.inl ⟨by kernel_rfl, ?_⟩) s12 ?_
    rotate_left
    · rintro w' ⟨h1, h2, h3, h4, h5, h6, h7, h8⟩; go_simp; (try with_reducible rfl)
    try simp only [Act.put, List.getElem_toArray, List.getElem_cons_succ, List.getElem_cons_zero, List.setIfInBounds_toArray, List.set_cons_zero, List.set_cons_succ]
    refine wpAnyL_take (i := 16) (v := ?_) rfl (by kernel_rfl) (by kernel_rfl) (by kernel_rfl) (by kernel_rfl) (by kernel_rfl) (fun _ _ _ h => h) (Or.inl ⟨by kernel_rfl, ?_⟩) s12 ?_
    rotate_left
    · rintro w' ⟨h1, h2, h3, h4, h5, h6, h7, h8⟩; go_simp; (try with_reducible rfl)
    try simp only [Act.put, List.getElem_toArray, List.getElem_cons_succ, List.getElem_cons_zero, List.setIfInBounds_toArray, List.set_cons_zero, List.set_cons_succ]
    refine wpAnyL_take (i := 17) (v := ?_) rfl (by kernel_rfl) (by kernel_rfl) (by kernel_rfl) (by kernel_rfl) (by kernel_rfl) (fun _ _ _ h => h) (Or.inl ⟨by kernel_rfl, ?_⟩) s12 ?_
    rotate_left
    · rintro w' ⟨h1, h2, h3, h4, h5, h6, h7, h8⟩; go_simp; (try with_reducible rfl)
    try simp only [Act.put, List.getElem_toArray, List.getElem_cons_succ, List.getElem_cons_zero, List.setIfInBounds_toArray, List.set_cons_zero, List.set_cons_succ]
    refine wpAnyL_take (i := 19) (v := ?_) rfl (by kernel_rfl) (by kernel_rfl) (by kernel_rfl) (by kernel_rfl) (by kernel_rfl) (fun _ _ _ h => h) (Or.inl ⟨by kernel_rfl, ?_⟩) s12 ?_
    rotate_left
    · rintro w' ⟨h1, h2, h3, h4, h5, h6, h7, h8⟩; go_simp; (try with_reducible rfl)
    try simp only [Act.put, List.getElem_toArray, List.getElem_cons_succ, List.getElem_cons_zero, List.setIfInBounds_toArray, List.set_cons_zero, List.set_cons_succ]
    refine wpAnyL_one (i := 18) (by kernel_rfl) rfl (fun K hK => ?_)
    go_simp
    refine (qplain (K := 4) (R12.z 9 rfl) (R12.z 8 rfl) (by decide) (by decide) (by decide) (by decide) Ha.out).mono ?_; rintro e w13 ⟨b_pan, A_pan, n_pan, b_pad, A_pad, n_pad, rfl, z_pan, z_pad, hb13⟩
    have R13 := (((R12.below hb13).add z_pan).add z_pad)
    have s13 := And.intro (R13.cell 2 0 rfl rfl) (And.intro (R13.cell 2 1 rfl rfl) (And.intro (R13.cell 2 2 rfl rfl) (And.intro (R13.cell 2 3 rfl rfl) (And.intro (R13.cell 1 0 rfl rfl) (And.intro (R13.cell 1 1 rfl rfl) (And.intro (R13.cell 1 2 rfl rfl) (R13.cell 1 3 rfl rfl)))))))
    clear z_pan z_pad hb13 R12 s12
    go_wp2_with fail
    refine hK.out _ _ (fun _ => s13) ?_
    clear hK K
    try simp only [Act.put, List.getElem_toArray, List.getElem_cons_succ, List.getElem_cons_zero, List.setIfInBounds_toArray, List.set_cons_zero, List.set_cons_succ]
    refine wpAnyL_one (i := 20) (by kernel_rfl) rfl (fun K hK => ?_)
    go_simp
    refine (qplain (K := 4) (R13.z 9 rfl) (R13.z 8 rfl) (by decide) (by decide) (by decide) (by decide) Hb.out).mono ?_; rintro e w14 ⟨b_pbn, A_pbn, n_pbn, b_pbd, A_pbd, n_pbd, rfl, z_pbn, z_pbd, hb14⟩
    have R14 := (((R13.below hb14).add z_pbn).add z_pbd)
    have s14 := And.intro (R14.cell 2 0 rfl rfl) (And.intro (R14.cell 2 1 rfl rfl) (And.intro (R14.cell 2 2 rfl rfl) (And.intro (R14.cell 2 3 rfl rfl) (And.intro (R14.cell 1 0 rfl rfl) (And.intro (R14.cell 1 1 rfl rfl) (And.intro (R14.cell 1 2 rfl rfl) (R14.cell 1 3 rfl rfl)))))))
    clear z_pbn z_pbd hb14 R13 s13
    go_wp2_with fail
    refine hK.out _ _ (fun _ => s14) ?_
    clear hK K
    try simp only [Act.put, List.getElem_toArray, List.getElem_cons_succ, List.getElem_cons_zero, List.setIfInBounds_toArray, List.set_cons_zero, List.set_cons_succ]
    refine wpAnyL_one (i := 21) (by kernel_rfl) rfl (fun K hK => ?_)
    go_simp
    refine (qcmp_ (k := 4) (R14.z 3 rfl) (R14.z 2 rfl) (R14.z 1 rfl) (R14.z 0 rfl) (by decide) (by decide) (by decide) (by decide) (by decide) (by decide) (qv_self (ra)) (qv_self (rb)) HX.out).mono ?_; rintro e w15 ⟨rfl, hb15⟩
    have R15 := (R14.below hb15)
    have s15 := And.intro (R15.cell 2 0 rfl rfl) (And.intro (R15.cell 2 1 rfl rfl) (And.intro (R15.cell 2 2 rfl rfl) (And.intro (R15.cell 2 3 rfl rfl) (And.intro (R15.cell 1 0 rfl rfl) (And.intro (R15.cell 1 1 rfl rfl) (And.intro (R15.cell 1 2 rfl rfl) (R15.cell 1 3 rfl rfl)))))))
    clear hb15 R14 s14
    go_wp2_with fail
    refine hK.out _ _ (fun _ => s15) ?_
    clear hK K
    try simp only [Act.put, List.getElem_toArray, List.getElem_cons_succ, List.getElem_cons_zero, List.setIfInBounds_toArray, List.set_cons_zero, List.set_cons_succ]
    refine wpAnyL_take (i := 22) (v := ?_) rfl (by kernel_rfl) (by kernel_rfl) (by kernel_rfl) (by kernel_rfl) (by kernel_rfl) (fun _ _ _ h => h) (Or.inl ⟨by kernel_rfl, ?_⟩) s15 ?_
    rotate_left
    · rintro w' ⟨h1, h2, h3, h4, h5, h6, h7, h8⟩; go_simp; (try with_reducible rfl)
    try simp only [Act.put, List.getElem_toArray, List.getElem_cons_succ, List.getElem_cons_zero, List.setIfInBounds_toArray, List.set_cons_zero, List.set_cons_succ]
    refine wpAnyL_take (i := 23) (v := ?_) rfl (by kernel_rfl) (by kernel_rfl) (by kernel_rfl) (by kernel_rfl) (by kernel_rfl) (fun _ _ _ h => h) (Or.inl ⟨by kernel_rfl, ?_⟩) s15 ?_
    rotate_left
    · rintro w' ⟨h1, h2, h3, h4, h5, h6, h7, h8⟩; go_simp; (try with_reducible rfl)
    try simp only [Act.put, List.getElem_toArray, List.getElem_cons_succ, List.getElem_cons_zero, List.setIfInBounds_toArray, List.set_cons_zero, List.set_cons_succ]
    refine wpAnyL_done (by kernel_rfl) ?_ _
    rcases (Hy.out ▸ qcmp_cases rb rc : y = -1 ∨ y = 0 ∨ y = 1) with rfl | rfl | rfl
    · rcases (Hz.out ▸ qcmp_cases ra rc : z = -1 ∨ z = 0 ∨ z = 1) with rfl | rfl | rfl
      · skip
        go_wp2_with fail
        have D16 := R15.drew
        have s16 := And.intro (D16.cell 2 0 rfl rfl) (And.intro (D16.cell 2 1 rfl rfl) (And.intro (D16.cell 2 2 rfl rfl) (And.intro (D16.cell 2 3 rfl rfl) (And.intro (D16.cell 1 0 rfl rfl) (And.intro (D16.cell 1 1 rfl rfl) (And.intro (D16.cell 1 2 rfl rfl) (D16.cell 1 3 rfl rfl)))))))
        refine wp_region_late [] (fun w' => w'.cell? ⟨w.heap.size, 0, none⟩ = some (.bool ba) ∧ w'.cell? ⟨w.heap.size, 1, none⟩ = some (.slice Aa na ca) ∧ w'.cell? ⟨w.heap.size, 2, none⟩ = some (.bool ba') ∧ w'.cell? ⟨w.heap.size, 3, none⟩ = some (.slice Aa' na' ca') ∧ w'.cell? ⟨w.heap.size + 1, 0, none⟩ = some (.bool bb) ∧ w'.cell? ⟨w.heap.size + 1, 1, none⟩ = some (.slice Ab nb cb) ∧ w'.cell? ⟨w.heap.size + 1, 2, none⟩ = some (.bool bb') ∧ w'.cell? ⟨w.heap.size + 1, 3, none⟩ = some (.slice Ab' nb' cb')) (by kernel_rfl) ?_
        refine wpAnyL_take (i := 0) (v := ?_) rfl (by kernel_rfl) (by kernel_rfl) (by kernel_rfl) (by kernel_rfl) (by kernel_rfl) (fun _ _ _ h => h) (Or.inl ⟨by kernel_rfl, ?_⟩) s16 ?_
        rotate_left
        · rintro w' ⟨h1, h2, h3, h4, h5, h6, h7, h8⟩; go_simp; (try with_reducible rfl)
        try simp only [Act.put, List.getElem_toArray, List.getElem_cons_succ, List.getElem_cons_zero, List.setIfInBounds_toArray, List.set_cons_zero, List.set_cons_succ]
        refine wpAnyL_take (i := 1) (v := ?_) rfl (by kernel_rfl) (by kernel_rfl) (by kernel_rfl) (by kernel_rfl) (by kernel_rfl) (fun _ _ _ h => h) (Or.inl ⟨by kernel_rfl, ?_⟩) s16 ?_
        rotate_left
        · rintro w' ⟨h1, h2, h3, h4, h5, h6, h7, h8⟩; go_simp; (try with_reducible rfl)
        try simp only [Act.put, List.getElem_toArray, List.getElem_cons_succ, List.getElem_cons_zero, List.setIfInBounds_toArray, List.set_cons_zero, List.set_cons_succ]
        refine wpAnyL_take (i := 2) (v := ?_) rfl (by kernel_rfl) (by kernel_rfl) (by kernel_rfl) (by kernel_rfl) (by kernel_rfl) (fun _ _ _ h => h) (Or.inl ⟨by kernel_rfl, ?_⟩) s16 ?_
        rotate_left
        · rintro w' ⟨h1, h2, h3, h4, h5, h6, h7, h8⟩; go_simp; (try with_reducible rfl)
        try simp only [Act.put, List.getElem_toArray, List.getElem_cons_succ, List.getElem_cons_zero, List.setIfInBounds_toArray, List.set_cons_zero, List.set_cons_succ]
        refine wpAnyL_take (i := 4) (v := ?_) rfl (by kernel_rfl) (by kernel_rfl) (by kernel_rfl) (by kernel_rfl) (by kernel_rfl) (fun _ _ _ h => h) (Or.inl ⟨by kernel_rfl, ?_⟩) s16 ?_
        rotate_left
        · rintro w' ⟨h1, h2, h3, h4, h5, h6, h7, h8⟩; go_simp; (try with_reducible rfl)
        try simp only [Act.put, List.getElem_toArray, List.getElem_cons_succ, List.getElem_cons_zero, List.setIfInBounds_toArray, List.set_cons_zero, List.set_cons_succ]
        refine wpAnyL_one (i := 3) (by kernel_rfl) rfl (fun K hK => ?_)
        go_simp
        refine (qplain (K := 4) (D16.z 13 rfl) (D16.z 12 rfl) (by decide) (by decide) (by decide) (by decide) Ha.out).mono ?_; rintro e w17 ⟨b_uan, A_uan, n_uan, b_uad, A_uad, n_uad, rfl, z_uan, z_uad, hb17⟩
        have R17 := (((D16.below hb17).add z_uan).add z_uad)
        have s17 := And.intro (R17.cell 2 0 rfl rfl) (And.intro (R17.cell 2 1 rfl rfl) (And.intro (R17.cell 2 2 rfl rfl) (And.intro (R17.cell 2 3 rfl rfl) (And.intro (R17.cell 1 0 rfl rfl) (And.intro (R17.cell 1 1 rfl rfl) (And.intro (R17.cell 1 2 rfl rfl) (R17.cell 1 3 rfl rfl)))))))
        clear z_uan z_uad hb17 D16 s16
        go_wp2_with fail
        refine hK.out _ _ (fun _ => s17) ?_
        clear hK K
        try simp only [Act.put, List.getElem_toArray, List.getElem_cons_succ, List.getElem_cons_zero, List.setIfInBounds_toArray, List.set_cons_zero, List.set_cons_succ]
        refine wpAnyL_one (i := 5) (by kernel_rfl) rfl (fun K hK => ?_)
        go_simp
        refine (qplain (K := 4) (R17.z 13 rfl) (R17.z 12 rfl) (by decide) (by decide) (by decide) (by decide) Hb.out).mono ?_; rintro e w18 ⟨b_ubn, A_ubn, n_ubn, b_ubd, A_ubd, n_ubd, rfl, z_ubn, z_ubd, hb18⟩
        have R18 := (((R17.below hb18).add z_ubn).add z_ubd)
        have s18 := And.intro (R18.cell 2 0 rfl rfl) (And.intro (R18.cell 2 1 rfl rfl) (And.intro (R18.cell 2 2 rfl rfl) (And.intro (R18.cell 2 3 rfl rfl) (And.intro (R18.cell 1 0 rfl rfl) (And.intro (R18.cell 1 1 rfl rfl) (And.intro (R18.cell 1 2 rfl rfl) (R18.cell 1 3 rfl rfl)))))))
        clear z_ubn z_ubd hb18 R17 s17
        go_wp2_with fail
        refine hK.out _ _ (fun _ => s18) ?_
        clear hK K
        try simp only [Act.put, List.getElem_toArray, List.getElem_cons_succ, List.getElem_cons_zero, List.setIfInBounds_toArray, List.set_cons_zero, List.set_cons_succ]
        refine wpAnyL_one (i := 6) (by kernel_rfl) rfl (fun K hK => ?_)
        go_simp
        refine (rqsame (R18.z 3 rfl) (R18.z 2 rfl) (R18.z 1 rfl) (R18.z 0 rfl) (by decide) (by decide) (by decide) (by decide) (qsame_dec ra rb (decide_eq_true (qcmp_eq.1 HX.out)))).mono ?_; rintro e w19 ⟨rfl, hb19⟩
        have R19 := (R18.below hb19)
        have s19 := And.intro (R19.cell 2 0 rfl rfl) (And.intro (R19.cell 2 1 rfl rfl) (And.intro (R19.cell 2 2 rfl rfl) (And.intro (R19.cell 2 3 rfl rfl) (And.intro (R19.cell 1 0 rfl rfl) (And.intro (R19.cell 1 1 rfl rfl) (And.intro (R19.cell 1 2 rfl rfl) (R19.cell 1 3 rfl rfl)))))))
        clear hb19 R18 s18
        go_wp2_with fail
        refine hK.out _ _ (fun _ => s19) ?_
        clear hK K
        try simp only [Act.put, List.getElem_toArray, List.getElem_cons_succ, List.getElem_cons_zero, List.setIfInBounds_toArray, List.set_cons_zero, List.set_cons_succ]
        refine wpAnyL_take (i := 7) (v := ?_) rfl (by kernel_rfl) (by kernel_rfl) (by kernel_rfl) (by kernel_rfl) (by kernel_rfl) (fun _ _ _ h => h) (Or.inl ⟨by kernel_rfl, ?_⟩) s19 ?_
        rotate_left
        · rintro w' ⟨h1, h2, h3, h4, h5, h6, h7, h8⟩; go_simp; (try with_reducible rfl)
        try simp only [Act.put, List.getElem_toArray, List.getElem_cons_succ, List.getElem_cons_zero, List.setIfInBounds_toArray, List.set_cons_zero, List.set_cons_succ]
        refine wpAnyL_one (i := 8) (by kernel_rfl) rfl (fun K hK => ?_)
        go_simp
        refine hK.out _ _ (fun _ => s19) ?_
        clear hK K
        try simp only [Act.put, List.getElem_toArray, List.getElem_cons_succ, List.getElem_cons_zero, List.setIfInBounds_toArray, List.set_cons_zero, List.set_cons_succ]
        refine wpAnyL_done (by kernel_rfl) ?_ _
        go_wp2_with fail
        go_ret
        exact ⟨rfl, R19.bel⟩
      · skip
        go_wp2_with fail
        have D16 := R15.drew
        have s16 := And.intro (D16.cell 2 0 rfl rfl) (And.intro (D16.cell 2 1 rfl rfl) (And.intro (D16.cell 2 2 rfl rfl) (And.intro (D16.cell 2 3 rfl rfl) (And.intro (D16.cell 1 0 rfl rfl) (And.intro (D16.cell 1 1 rfl rfl) (And.intro (D16.cell 1 2 rfl rfl) (D16.cell 1 3 rfl rfl)))))))
        refine wp_region_late [] (fun w' => w'.cell? ⟨w.heap.size, 0, none⟩ = some (.bool ba) ∧ w'.cell? ⟨w.heap.size, 1, none⟩ = some (.slice Aa na ca) ∧ w'.cell? ⟨w.heap.size, 2, none⟩ = some (.bool ba') ∧ w'.cell? ⟨w.heap.size, 3, none⟩ = some (.slice Aa' na' ca') ∧ w'.cell? ⟨w.heap.size + 1, 0, none⟩ = some (.bool bb) ∧ w'.cell? ⟨w.heap.size + 1, 1, none⟩ = some (.slice Ab nb cb) ∧ w'.cell? ⟨w.heap.size + 1, 2, none⟩ = some (.bool bb') ∧ w'.cell? ⟨w.heap.size + 1, 3, none⟩ = some (.slice Ab' nb' cb')) (by kernel_rfl) ?_
        refine wpAnyL_take (i := 0) (v := ?_) rfl (by kernel_rfl) (by kernel_rfl) (by kernel_rfl) (by kernel_rfl) (by kernel_rfl) (fun _ _ _ h => h) (Or.inl ⟨by kernel_rfl, ?_⟩) s16 ?_
        rotate_left
        · rintro w' ⟨h1, h2, h3, h4, h5, h6, h7, h8⟩; go_simp; (try with_reducible rfl)
        try simp only [Act.put, List.getElem_toArray, List.getElem_cons_succ, List.getElem_cons_zero, List.setIfInBounds_toArray, List.set_cons_zero, List.set_cons_succ]
        refine wpAnyL_take (i := 1) (v := ?_) rfl (by kernel_rfl) (by kernel_rfl) (by kernel_rfl) (by kernel_rfl) (by kernel_rfl) (fun _ _ _ h => h) (Or.inl ⟨by kernel_rfl, ?_⟩) s16 ?_
        rotate_left
        · rintro w' ⟨h1, h2, h3, h4, h5, h6, h7, h8⟩; go_simp; (try with_reducible rfl)
        try simp only [Act.put, List.getElem_toArray, List.getElem_cons_succ, List.getElem_cons_zero, List.setIfInBounds_toArray, List.set_cons_zero, List.set_cons_succ]
        refine wpAnyL_take (i := 2) (v := ?_) rfl (by kernel_rfl) (by kernel_rfl) (by kernel_rfl) (by kernel_rfl) (by kernel_rfl) (fun _ _ _ h => h) (Or.inl ⟨by kernel_rfl, ?_⟩) s16 ?_
        rotate_left
        · rintro w' ⟨h1, h2, h3, h4, h5, h6, h7, h8⟩; go_simp; (try with_reducible rfl)
        try simp only [Act.put, List.getElem_toArray, List.getElem_cons_succ, List.getElem_cons_zero, List.setIfInBounds_toArray, List.set_cons_zero, List.set_cons_succ]
        refine wpAnyL_take (i := 4) (v := ?_) rfl (by kernel_rfl) (by kernel_rfl) (by kernel_rfl) (by kernel_rfl) (by kernel_rfl) (fun _ _ _ h => h) (Or.inl ⟨by kernel_rfl, ?_⟩) s16 ?_
        rotate_left
        · rintro w' ⟨h1, h2, h3, h4, h5, h6, h7, h8⟩; go_simp; (try with_reducible rfl)
        try simp only [Act.put, List.getElem_toArray, List.getElem_cons_succ, List.getElem_cons_zero, List.setIfInBounds_toArray, List.set_cons_zero, List.set_cons_succ]
        refine wpAnyL_one (i := 3) (by kernel_rfl) rfl (fun K hK => ?_)
        go_simp
        refine (qplain (K := 4) (D16.z 13 rfl) (D16.z 12 rfl) (by decide) (by decide) (by decide) (by decide) Ha.out).mono ?_; rintro e w17 ⟨b_uan, A_uan, n_uan, b_uad, A_uad, n_uad, rfl, z_uan, z_uad, hb17⟩
        have R17 := (((D16.below hb17).add z_uan).add z_uad)
        have s17 := And.intro (R17.cell 2 0 rfl rfl) (And.intro (R17.cell 2 1 rfl rfl) (And.intro (R17.cell 2 2 rfl rfl) (And.intro (R17.cell 2 3 rfl rfl) (And.intro (R17.cell 1 0 rfl rfl) (And.intro (R17.cell 1 1 rfl rfl) (And.intro (R17.cell 1 2 rfl rfl) (R17.cell 1 3 rfl rfl)))))))
        clear z_uan z_uad hb17 D16 s16
        go_wp2_with fail
        refine hK.out _ _ (fun _ => s17) ?_
        clear hK K
        try simp only [Act.put, List.getElem_toArray, List.getElem_cons_succ, List.getElem_cons_zero, List.setIfInBounds_toArray, List.set_cons_zero, List.set_cons_succ]
        refine wpAnyL_one (i := 5) (by kernel_rfl) rfl (fun K hK => ?_)
        go_simp
        refine (qplain (K := 4) (R17.z 13 rfl) (R17.z 12 rfl) (by decide) (by decide) (by decide) (by decide) Hb.out).mono ?_; rintro e w18 ⟨b_ubn, A_ubn, n_ubn, b_ubd, A_ubd, n_ubd, rfl, z_ubn, z_ubd, hb18⟩
        have R18 := (((R17.below hb18).add z_ubn).add z_ubd)
        have s18 := And.intro (R18.cell 2 0 rfl rfl) (And.intro (R18.cell 2 1 rfl rfl) (And.intro (R18.cell 2 2 rfl rfl) (And.intro (R18.cell 2 3 rfl rfl) (And.intro (R18.cell 1 0 rfl rfl) (And.intro (R18.cell 1 1 rfl rfl) (And.intro (R18.cell 1 2 rfl rfl) (R18.cell 1 3 rfl rfl)))))))
        clear z_ubn z_ubd hb18 R17 s17
        go_wp2_with fail
        refine hK.out _ _ (fun _ => s18) ?_
        clear hK K
        try simp only [Act.put, List.getElem_toArray, List.getElem_cons_succ, List.getElem_cons_zero, List.setIfInBounds_toArray, List.set_cons_zero, List.set_cons_succ]
        refine wpAnyL_one (i := 6) (by kernel_rfl) rfl (fun K hK => ?_)
        go_simp
        refine (rqsame (R18.z 3 rfl) (R18.z 2 rfl) (R18.z 1 rfl) (R18.z 0 rfl) (by decide) (by decide) (by decide) (by decide) (qsame_dec ra rb (decide_eq_true (qcmp_eq.1 HX.out)))).mono ?_; rintro e w19 ⟨rfl, hb19⟩
        have R19 := (R18.below hb19)
        have s19 := And.intro (R19.cell 2 0 rfl rfl) (And.intro (R19.cell 2 1 rfl rfl) (And.intro (R19.cell 2 2 rfl rfl) (And.intro (R19.cell 2 3 rfl rfl) (And.intro (R19.cell 1 0 rfl rfl) (And.intro (R19.cell 1 1 rfl rfl) (And.intro (R19.cell 1 2 rfl rfl) (R19.cell 1 3 rfl rfl)))))))
        clear hb19 R18 s18
        go_wp2_with fail
        refine hK.out _ _ (fun _ => s19) ?_
        clear hK K
        try simp only [Act.put, List.getElem_toArray, List.getElem_cons_succ, List.getElem_cons_zero, List.setIfInBounds_toArray, List.set_cons_zero, List.set_cons_succ]
        refine wpAnyL_take (i := 7) (v := ?_) rfl (by kernel_rfl) (by kernel_rfl) (by kernel_rfl) (by kernel_rfl) (by kernel_rfl) (fun _ _ _ h => h) (Or.inl ⟨by kernel_rfl, ?_⟩) s19 ?_
        rotate_left
        · rintro w' ⟨h1, h2, h3, h4, h5, h6, h7, h8⟩; go_simp; (try with_reducible rfl)
        try simp only [Act.put, List.getElem_toArray, List.getElem_cons_succ, List.getElem_cons_zero, List.setIfInBounds_toArray, List.set_cons_zero, List.set_cons_succ]
        refine wpAnyL_one (i := 8) (by kernel_rfl) rfl (fun K hK => ?_)
        go_simp
        refine hK.out _ _ (fun _ => s19) ?_
        clear hK K
        try simp only [Act.put, List.getElem_toArray, List.getElem_cons_succ, List.getElem_cons_zero, List.setIfInBounds_toArray, List.set_cons_zero, List.set_cons_succ]
        refine wpAnyL_done (by kernel_rfl) ?_ _
        go_wp2_with fail
        go_ret
        exact ⟨rfl, R19.bel⟩
      · exact absurd (qtri_lo HX.out Hy.out Hz.out (by decide) (by decide)) (by decide)
    · rcases (Hz.out ▸ qcmp_cases ra rc : z = -1 ∨ z = 0 ∨ z = 1) with rfl | rfl | rfl
      · exact absurd (qtri_hi HX.out Hy.out Hz.out (by decide) (by decide)) (by decide)
      · skip
        go_wp2_with fail
        have D16 := R15.drew
        have s16 := And.intro (D16.cell 2 0 rfl rfl) (And.intro (D16.cell 2 1 rfl rfl) (And.intro (D16.cell 2 2 rfl rfl) (And.intro (D16.cell 2 3 rfl rfl) (And.intro (D16.cell 1 0 rfl rfl) (And.intro (D16.cell 1 1 rfl rfl) (And.intro (D16.cell 1 2 rfl rfl) (D16.cell 1 3 rfl rfl)))))))
        refine wp_region_late [] (fun w' => w'.cell? ⟨w.heap.size, 0, none⟩ = some (.bool ba) ∧ w'.cell? ⟨w.heap.size, 1, none⟩ = some (.slice Aa na ca) ∧ w'.cell? ⟨w.heap.size, 2, none⟩ = some (.bool ba') ∧ w'.cell? ⟨w.heap.size, 3, none⟩ = some (.slice Aa' na' ca') ∧ w'.cell? ⟨w.heap.size + 1, 0, none⟩ = some (.bool bb) ∧ w'.cell? ⟨w.heap.size + 1, 1, none⟩ = some (.slice Ab nb cb) ∧ w'.cell? ⟨w.heap.size + 1, 2, none⟩ = some (.bool bb') ∧ w'.cell? ⟨w.heap.size + 1, 3, none⟩ = some (.slice Ab' nb' cb')) (by kernel_rfl) ?_
        refine wpAnyL_take (i := 0) (v := ?_) rfl (by kernel_rfl) (by kernel_rfl) (by kernel_rfl) (by kernel_rfl) (by kernel_rfl) (fun _ _ _ h => h) (Or.inl ⟨by kernel_rfl, ?_⟩) s16 ?_
        rotate_left
        · rintro w' ⟨h1, h2, h3, h4, h5, h6, h7, h8⟩; go_simp; (try with_reducible rfl)
        try simp only [Act.put, List.getElem_toArray, List.getElem_cons_succ, List.getElem_cons_zero, List.setIfInBounds_toArray, List.set_cons_zero, List.set_cons_succ]
        refine wpAnyL_take (i := 1) (v := ?_) rfl (by kernel_rfl) (by kernel_rfl) (by kernel_rfl) (by kernel_rfl) (by kernel_rfl) (fun _ _ _ h => h) (Or.inl ⟨by kernel_rfl, ?_⟩) s16 ?_
        rotate_left
        · rintro w' ⟨h1, h2, h3, h4, h5, h6, h7, h8⟩; go_simp; (try with_reducible rfl)
        try simp only [Act.put, List.getElem_toArray, List.getElem_cons_succ, List.getElem_cons_zero, List.setIfInBounds_toArray, List.set_cons_zero, List.set_cons_succ]
        refine wpAnyL_take (i := 2) (v := ?_) rfl (by kernel_rfl) (by kernel_rfl) (by kernel_rfl) (by kernel_rfl) (by kernel_rfl) (fun _ _ _ h => h) (Or.inl ⟨by kernel_rfl, ?_⟩) s16 ?_
        rotate_left
        · rintro w' ⟨h1, h2, h3, h4, h5, h6, h7, h8⟩; go_simp; (try with_reducible rfl)
        try simp only [Act.put, List.getElem_toArray, List.getElem_cons_succ, List.getElem_cons_zero, List.setIfInBounds_toArray, List.set_cons_zero, List.set_cons_succ]
        refine wpAnyL_take (i := 4) (v := ?_) rfl (by kernel_rfl) (by kernel_rfl) (by kernel_rfl) (by kernel_rfl) (by kernel_rfl) (fun _ _ _ h => h) (Or.inl ⟨by kernel_rfl, ?_⟩) s16 ?_
        rotate_left
        · rintro w' ⟨h1, h2, h3, h4, h5, h6, h7, h8⟩; go_simp; (try with_reducible rfl)
        try simp only [Act.put, List.getElem_toArray, List.getElem_cons_succ, List.getElem_cons_zero, List.setIfInBounds_toArray, List.set_cons_zero, List.set_cons_succ]
        refine wpAnyL_one (i := 3) (by kernel_rfl) rfl (fun K hK => ?_)
        go_simp
        refine (qplain (K := 4) (D16.z 13 rfl) (D16.z 12 rfl) (by decide) (by decide) (by decide) (by decide) Ha.out).mono ?_; rintro e w17 ⟨b_uan, A_uan, n_uan, b_uad, A_uad, n_uad, rfl, z_uan, z_uad, hb17⟩
        have R17 := (((D16.below hb17).add z_uan).add z_uad)
        have s17 := And.intro (R17.cell 2 0 rfl rfl) (And.intro (R17.cell 2 1 rfl rfl) (And.intro (R17.cell 2 2 rfl rfl) (And.intro (R17.cell 2 3 rfl rfl) (And.intro (R17.cell 1 0 rfl rfl) (And.intro (R17.cell 1 1 rfl rfl) (And.intro (R17.cell 1 2 rfl rfl) (R17.cell 1 3 rfl rfl)))))))
        clear z_uan z_uad hb17 D16 s16
        go_wp2_with fail
        refine hK.out _ _ (fun _ => s17) ?_
        clear hK K
        try simp only [Act.put, List.getElem_toArray, List.getElem_cons_succ, List.getElem_cons_zero, List.setIfInBounds_toArray, List.set_cons_zero, List.set_cons_succ]
        refine wpAnyL_one (i := 5) (by kernel_rfl) rfl (fun K hK => ?_)
        go_simp
        refine (qplain (K := 4) (R17.z 13 rfl) (R17.z 12 rfl) (by decide) (by decide) (by decide) (by decide) Hb.out).mono ?_; rintro e w18 ⟨b_ubn, A_ubn, n_ubn, b_ubd, A_ubd, n_ubd, rfl, z_ubn, z_ubd, hb18⟩
        have R18 := (((R17.below hb18).add z_ubn).add z_ubd)
        have s18 := And.intro (R18.cell 2 0 rfl rfl) (And.intro (R18.cell 2 1 rfl rfl) (And.intro (R18.cell 2 2 rfl rfl) (And.intro (R18.cell 2 3 rfl rfl) (And.intro (R18.cell 1 0 rfl rfl) (And.intro (R18.cell 1 1 rfl rfl) (And.intro (R18.cell 1 2 rfl rfl) (R18.cell 1 3 rfl rfl)))))))
        clear z_ubn z_ubd hb18 R17 s17
        go_wp2_with fail
        refine hK.out _ _ (fun _ => s18) ?_
        clear hK K
        try simp only [Act.put, List.getElem_toArray, List.getElem_cons_succ, List.getElem_cons_zero, List.setIfInBounds_toArray, List.set_cons_zero, List.set_cons_succ]
        refine wpAnyL_one (i := 6) (by kernel_rfl) rfl (fun K hK => ?_)
        go_simp
        refine (rqsame (R18.z 3 rfl) (R18.z 2 rfl) (R18.z 1 rfl) (R18.z 0 rfl) (by decide) (by decide) (by decide) (by decide) (qsame_dec ra rb (decide_eq_true (qcmp_eq.1 HX.out)))).mono ?_; rintro e w19 ⟨rfl, hb19⟩
        have R19 := (R18.below hb19)
        have s19 := And.intro (R19.cell 2 0 rfl rfl) (And.intro (R19.cell 2 1 rfl rfl) (And.intro (R19.cell 2 2 rfl rfl) (And.intro (R19.cell 2 3 rfl rfl) (And.intro (R19.cell 1 0 rfl rfl) (And.intro (R19.cell 1 1 rfl rfl) (And.intro (R19.cell 1 2 rfl rfl) (R19.cell 1 3 rfl rfl)))))))
        clear hb19 R18 s18
        go_wp2_with fail
        refine hK.out _ _ (fun _ => s19) ?_
        clear hK K
        try simp only [Act.put, List.getElem_toArray, List.getElem_cons_succ, List.getElem_cons_zero, List.setIfInBounds_toArray, List.set_cons_zero, List.set_cons_succ]
        refine wpAnyL_take (i := 7) (v := ?_) rfl (by kernel_rfl) (by kernel_rfl) (by kernel_rfl) (by kernel_rfl) (by kernel_rfl) (fun _ _ _ h => h) (Or.inl ⟨by kernel_rfl, ?_⟩) s19 ?_
        rotate_left
        · rintro w' ⟨h1, h2, h3, h4, h5, h6, h7, h8⟩; go_simp; (try with_reducible rfl)
        try simp only [Act.put, List.getElem_toArray, List.getElem_cons_succ, List.getElem_cons_zero, List.setIfInBounds_toArray, List.set_cons_zero, List.set_cons_succ]
        refine wpAnyL_one (i := 8) (by kernel_rfl) rfl (fun K hK => ?_)
        go_simp
        refine hK.out _ _ (fun _ => s19) ?_
        clear hK K
        try simp only [Act.put, List.getElem_toArray, List.getElem_cons_succ, List.getElem_cons_zero, List.setIfInBounds_toArray, List.set_cons_zero, List.set_cons_succ]
        refine wpAnyL_done (by kernel_rfl) ?_ _
        go_wp2_with fail
        go_ret
        exact ⟨rfl, R19.bel⟩
      · exact absurd (qtri_lo HX.out Hy.out Hz.out (by decide) (by decide)) (by decide)
    · rcases (Hz.out ▸ qcmp_cases ra rc : z = -1 ∨ z = 0 ∨ z = 1) with rfl | rfl | rfl
      · exact absurd (qtri_hi HX.out Hy.out Hz.out (by decide) (by decide)) (by decide)
      · skip
        go_wp2_with fail
        have D16 := R15.drew
        have s16 := And.intro (D16.cell 2 0 rfl rfl) (And.intro (D16.cell 2 1 rfl rfl) (And.intro (D16.cell 2 2 rfl rfl) (And.intro (D16.cell 2 3 rfl rfl) (And.intro (D16.cell 1 0 rfl rfl) (And.intro (D16.cell 1 1 rfl rfl) (And.intro (D16.cell 1 2 rfl rfl) (D16.cell 1 3 rfl rfl)))))))
        refine wp_region_late [] (fun w' => w'.cell? ⟨w.heap.size, 0, none⟩ = some (.bool ba) ∧ w'.cell? ⟨w.heap.size, 1, none⟩ = some (.slice Aa na ca) ∧ w'.cell? ⟨w.heap.size, 2, none⟩ = some (.bool ba') ∧ w'.cell? ⟨w.heap.size, 3, none⟩ = some (.slice Aa' na' ca') ∧ w'.cell? ⟨w.heap.size + 1, 0, none⟩ = some (.bool bb) ∧ w'.cell? ⟨w.heap.size + 1, 1, none⟩ = some (.slice Ab nb cb) ∧ w'.cell? ⟨w.heap.size + 1, 2, none⟩ = some (.bool bb') ∧ w'.cell? ⟨w.heap.size + 1, 3, none⟩ = some (.slice Ab' nb' cb')) (by kernel_rfl) ?_
        refine wpAnyL_take (i := 0) (v := ?_) rfl (by kernel_rfl) (by kernel_rfl) (by kernel_rfl) (by kernel_rfl) (by kernel_rfl) (fun _ _ _ h => h) (Or.inl ⟨by kernel_rfl, ?_⟩) s16 ?_
        rotate_left
        · rintro w' ⟨h1, h2, h3, h4, h5, h6, h7, h8⟩; go_simp; (try with_reducible rfl)
        try simp only [Act.put, List.getElem_toArray, List.getElem_cons_succ, List.getElem_cons_zero, List.setIfInBounds_toArray, List.set_cons_zero, List.set_cons_succ]
        refine wpAnyL_take (i := 1) (v := ?_) rfl (by kernel_rfl) (by kernel_rfl) (by kernel_rfl) (by kernel_rfl) (by kernel_rfl) (fun _ _ _ h => h) (Or.inl ⟨by kernel_rfl, ?_⟩) s16 ?_
        rotate_left
        · rintro w' ⟨h1, h2, h3, h4, h5, h6, h7, h8⟩; go_simp; (try with_reducible rfl)
        try simp only [Act.put, List.getElem_toArray, List.getElem_cons_succ, List.getElem_cons_zero, List.setIfInBounds_toArray, List.set_cons_zero, List.set_cons_succ]
        refine wpAnyL_take (i := 2) (v := ?_) rfl (by kernel_rfl) (by kernel_rfl) (by kernel_rfl) (by kernel_rfl) (by kernel_rfl) (fun _ _ _ h => h) (Or.inl ⟨by kernel_rfl, ?_⟩) s16 ?_
        rotate_left
        · rintro w' ⟨h1, h2, h3, h4, h5, h6, h7, h8⟩; go_simp; (try with_reducible rfl)
        try simp only [Act.put, List.getElem_toArray, List.getElem_cons_succ, List.getElem_cons_zero, List.setIfInBounds_toArray, List.set_cons_zero, List.set_cons_succ]
        refine wpAnyL_take (i := 4) (v := ?_) rfl (by kernel_rfl) (by kernel_rfl) (by kernel_rfl) (by kernel_rfl) (by kernel_rfl) (fun _ _ _ h => h) (Or.inl ⟨by kernel_rfl, ?_⟩) s16 ?_
        rotate_left
        · rintro w' ⟨h1, h2, h3, h4, h5, h6, h7, h8⟩; go_simp; (try with_reducible rfl)
        try simp only [Act.put, List.getElem_toArray, List.getElem_cons_succ, List.getElem_cons_zero, List.setIfInBounds_toArray, List.set_cons_zero, List.set_cons_succ]
        refine wpAnyL_one (i := 3) (by kernel_rfl) rfl (fun K hK => ?_)
        go_simp
        refine (qplain (K := 4) (D16.z 13 rfl) (D16.z 12 rfl) (by decide) (by decide) (by decide) (by decide) Ha.out).mono ?_; rintro e w17 ⟨b_uan, A_uan, n_uan, b_uad, A_uad, n_uad, rfl, z_uan, z_uad, hb17⟩
        have R17 := (((D16.below hb17).add z_uan).add z_uad)
        have s17 := And.intro (R17.cell 2 0 rfl rfl) (And.intro (R17.cell 2 1 rfl rfl) (And.intro (R17.cell 2 2 rfl rfl) (And.intro (R17.cell 2 3 rfl rfl) (And.intro (R17.cell 1 0 rfl rfl) (And.intro (R17.cell 1 1 rfl rfl) (And.intro (R17.cell 1 2 rfl rfl) (R17.cell 1 3 rfl rfl)))))))
        clear z_uan z_uad hb17 D16 s16
        go_wp2_with fail
        refine hK.out _ _ (fun _ => s17) ?_
        clear hK K
        try simp only [Act.put, List.getElem_toArray, List.getElem_cons_succ, List.getElem_cons_zero, List.setIfInBounds_toArray, List.set_cons_zero, List.set_cons_succ]
        refine wpAnyL_one (i := 5) (by kernel_rfl) rfl (fun K hK => ?_)
        go_simp
        refine (qplain (K := 4) (R17.z 13 rfl) (R17.z 12 rfl) (by decide) (by decide) (by decide) (by decide) Hb.out).mono ?_; rintro e w18 ⟨b_ubn, A_ubn, n_ubn, b_ubd, A_ubd, n_ubd, rfl, z_ubn, z_ubd, hb18⟩
        have R18 := (((R17.below hb18).add z_ubn).add z_ubd)
        have s18 := And.intro (R18.cell 2 0 rfl rfl) (And.intro (R18.cell 2 1 rfl rfl) (And.intro (R18.cell 2 2 rfl rfl) (And.intro (R18.cell 2 3 rfl rfl) (And.intro (R18.cell 1 0 rfl rfl) (And.intro (R18.cell 1 1 rfl rfl) (And.intro (R18.cell 1 2 rfl rfl) (R18.cell 1 3 rfl rfl)))))))
        clear z_ubn z_ubd hb18 R17 s17
        go_wp2_with fail
        refine hK.out _ _ (fun _ => s18) ?_
        clear hK K
        try simp only [Act.put, List.getElem_toArray, List.getElem_cons_succ, List.getElem_cons_zero, List.setIfInBounds_toArray, List.set_cons_zero, List.set_cons_succ]
        refine wpAnyL_one (i := 6) (by kernel_rfl) rfl (fun K hK => ?_)
        go_simp
        refine (rqsame (R18.z 3 rfl) (R18.z 2 rfl) (R18.z 1 rfl) (R18.z 0 rfl) (by decide) (by decide) (by decide) (by decide) (qsame_dec ra rb (decide_eq_true (qcmp_eq.1 HX.out)))).mono ?_; rintro e w19 ⟨rfl, hb19⟩
        have R19 := (R18.below hb19)
        have s19 := And.intro (R19.cell 2 0 rfl rfl) (And.intro (R19.cell 2 1 rfl rfl) (And.intro (R19.cell 2 2 rfl rfl) (And.intro (R19.cell 2 3 rfl rfl) (And.intro (R19.cell 1 0 rfl rfl) (And.intro (R19.cell 1 1 rfl rfl) (And.intro (R19.cell 1 2 rfl rfl) (R19.cell 1 3 rfl rfl)))))))
        clear hb19 R18 s18
        go_wp2_with fail
        refine hK.out _ _ (fun _ => s19) ?_
        clear hK K
        try simp only [Act.put, List.getElem_toArray, List.getElem_cons_succ, List.getElem_cons_zero, List.setIfInBounds_toArray, List.set_cons_zero, List.set_cons_succ]
        refine wpAnyL_take (i := 7) (v := ?_) rfl (by kernel_rfl) (by kernel_rfl) (by kernel_rfl) (by kernel_rfl) (by kernel_rfl) (fun _ _ _ h => h) (Or.inl ⟨by kernel_rfl, ?_⟩) s19 ?_
        rotate_left
        · rintro w' ⟨h1, h2, h3, h4, h5, h6, h7, h8⟩; go_simp; (try with_reducible rfl)
        try simp only [Act.put, List.getElem_toArray, List.getElem_cons_succ, List.getElem_cons_zero, List.setIfInBounds_toArray, List.set_cons_zero, List.set_cons_succ]
        refine wpAnyL_one (i := 8) (by kernel_rfl) rfl (fun K hK => ?_)
        go_simp
        refine hK.out _ _ (fun _ => s19) ?_
        clear hK K
        try simp only [Act.put, List.getElem_toArray, List.getElem_cons_succ, List.getElem_cons_zero, List.setIfInBounds_toArray, List.set_cons_zero, List.set_cons_succ]
        refine wpAnyL_done (by kernel_rfl) ?_ _
        go_wp2_with fail
        go_ret
        exact ⟨rfl, R19.bel⟩
      · skip
        go_wp2_with fail
        have D16 := R15.drew
        have s16 := And.intro (D16.cell 2 0 rfl rfl) (And.intro (D16.cell 2 1 rfl rfl) (And.intro (D16.cell 2 2 rfl rfl) (And.intro (D16.cell 2 3 rfl rfl) (And.intro (D16.cell 1 0 rfl rfl) (And.intro (D16.cell 1 1 rfl rfl) (And.intro (D16.cell 1 2 rfl rfl) (D16.cell 1 3 rfl rfl)))))))
        refine wp_region_late [] (fun w' => w'.cell? ⟨w.heap.size, 0, none⟩ = some (.bool ba) ∧ w'.cell? ⟨w.heap.size, 1, none⟩ = some (.slice Aa na ca) ∧ w'.cell? ⟨w.heap.size, 2, none⟩ = some (.bool ba') ∧ w'.cell? ⟨w.heap.size, 3, none⟩ = some (.slice Aa' na' ca') ∧ w'.cell? ⟨w.heap.size + 1, 0, none⟩ = some (.bool bb) ∧ w'.cell? ⟨w.heap.size + 1, 1, none⟩ = some (.slice Ab nb cb) ∧ w'.cell? ⟨w.heap.size + 1, 2, none⟩ = some (.bool bb') ∧ w'.cell? ⟨w.heap.size + 1, 3, none⟩ = some (.slice Ab' nb' cb')) (by kernel_rfl) ?_
        refine wpAnyL_take (i := 0) (v := ?_) rfl (by kernel_rfl) (by kernel_rfl) (by kernel_rfl) (by kernel_rfl) (by kernel_rfl) (fun _ _ _ h => h) (Or.inl ⟨by kernel_rfl, ?_⟩) s16 ?_
        rotate_left
        · rintro w' ⟨h1, h2, h3, h4, h5, h6, h7, h8⟩; go_simp; (try with_reducible rfl)
        try simp only [Act.put, List.getElem_toArray, List.getElem_cons_succ, List.getElem_cons_zero, List.setIfInBounds_toArray, List.set_cons_zero, List.set_cons_succ]
        refine wpAnyL_take (i := 1) (v := ?_) rfl (by kernel_rfl) (by kernel_rfl) (by kernel_rfl) (by kernel_rfl) (by kernel_rfl) (fun _ _ _ h => h) (Or.inl ⟨by kernel_rfl, ?_⟩) s16 ?_
        rotate_left
        · rintro w' ⟨h1, h2, h3, h4, h5, h6, h7, h8⟩; go_simp; (try with_reducible rfl)
        try simp only [Act.put, List.getElem_toArray, List.getElem_cons_succ, List.getElem_cons_zero, List.setIfInBounds_toArray, List.set_cons_zero, List.set_cons_succ]
        refine wpAnyL_take (i := 2) (v := ?_) rfl (by kernel_rfl) (by kernel_rfl) (by kernel_rfl) (by kernel_rfl) (by kernel_rfl) (fun _ _ _ h => h) (Or.inl ⟨by kernel_rfl, ?_⟩) s16 ?_
        rotate_left
        · rintro w' ⟨h1, h2, h3, h4, h5, h6, h7, h8⟩; go_simp; (try with_reducible rfl)
        try simp only [Act.put, List.getElem_toArray, List.getElem_cons_succ, List.getElem_cons_zero, List.setIfInBounds_toArray, List.set_cons_zero, List.set_cons_succ]
        refine wpAnyL_take (i := 4) (v := ?_) rfl (by kernel_rfl) (by kernel_rfl) (by kernel_rfl) (by kernel_rfl) (by kernel_rfl) (fun _ _ _ h => h) (Or.inl ⟨by kernel_rfl, ?_⟩) s16 ?_
        rotate_left
        · rintro w' ⟨h1, h2, h3, h4, h5, h6, h7, h8⟩; go_simp; (try with_reducible rfl)
        try simp only [Act.put, List.getElem_toArray, List.getElem_cons_succ, List.getElem_cons_zero, List.setIfInBounds_toArray, List.set_cons_zero, List.set_cons_succ]
        refine wpAnyL_one (i := 3) (by kernel_rfl) rfl (fun K hK => ?_)
        go_simp
        refine (qplain (K := 4) (D16.z 13 rfl) (D16.z 12 rfl) (by decide) (by decide) (by decide) (by decide) Ha.out).mono ?_; rintro e w17 ⟨b_uan, A_uan, n_uan, b_uad, A_uad, n_uad, rfl, z_uan, z_uad, hb17⟩
        have R17 := (((D16.below hb17).add z_uan).add z_uad)
        have s17 := And.intro (R17.cell 2 0 rfl rfl) (And.intro (R17.cell 2 1 rfl rfl) (And.intro (R17.cell 2 2 rfl rfl) (And.intro (R17.cell 2 3 rfl rfl) (And.intro (R17.cell 1 0 rfl rfl) (And.intro (R17.cell 1 1 rfl rfl) (And.intro (R17.cell 1 2 rfl rfl) (R17.cell 1 3 rfl rfl)))))))
        clear z_uan z_uad hb17 D16 s16
        go_wp2_with fail
        refine hK.out _ _ (fun _ => s17) ?_
        clear hK K
        try simp only [Act.put, List.getElem_toArray, List.getElem_cons_succ, List.getElem_cons_zero, List.setIfInBounds_toArray, List.set_cons_zero, List.set_cons_succ]
        refine wpAnyL_one (i := 5) (by kernel_rfl) rfl (fun K hK => ?_)
        go_simp
        refine (qplain (K := 4) (R17.z 13 rfl) (R17.z 12 rfl) (by decide) (by decide) (by decide) (by decide) Hb.out).mono ?_; rintro e w18 ⟨b_ubn, A_ubn, n_ubn, b_ubd, A_ubd, n_ubd, rfl, z_ubn, z_ubd, hb18⟩
        have R18 := (((R17.below hb18).add z_ubn).add z_ubd)
        have s18 := And.intro (R18.cell 2 0 rfl rfl) (And.intro (R18.cell 2 1 rfl rfl) (And.intro (R18.cell 2 2 rfl rfl) (And.intro (R18.cell 2 3 rfl rfl) (And.intro (R18.cell 1 0 rfl rfl) (And.intro (R18.cell 1 1 rfl rfl) (And.intro (R18.cell 1 2 rfl rfl) (R18.cell 1 3 rfl rfl)))))))
        clear z_ubn z_ubd hb18 R17 s17
        go_wp2_with fail
        refine hK.out _ _ (fun _ => s18) ?_
        clear hK K
        try simp only [Act.put, List.getElem_toArray, List.getElem_cons_succ, List.getElem_cons_zero, List.setIfInBounds_toArray, List.set_cons_zero, List.set_cons_succ]
        refine wpAnyL_one (i := 6) (by kernel_rfl) rfl (fun K hK => ?_)
        go_simp
        refine (rqsame (R18.z 3 rfl) (R18.z 2 rfl) (R18.z 1 rfl) (R18.z 0 rfl) (by decide) (by decide) (by decide) (by decide) (qsame_dec ra rb (decide_eq_true (qcmp_eq.1 HX.out)))).mono ?_; rintro e w19 ⟨rfl, hb19⟩
        have R19 := (R18.below hb19)
        have s19 := And.intro (R19.cell 2 0 rfl rfl) (And.intro (R19.cell 2 1 rfl rfl) (And.intro (R19.cell 2 2 rfl rfl) (And.intro (R19.cell 2 3 rfl rfl) (And.intro (R19.cell 1 0 rfl rfl) (And.intro (R19.cell 1 1 rfl rfl) (And.intro (R19.cell 1 2 rfl rfl) (R19.cell 1 3 rfl rfl)))))))
        clear hb19 R18 s18
        go_wp2_with fail
        refine hK.out _ _ (fun _ => s19) ?_
        clear hK K
        try simp only [Act.put, List.getElem_toArray, List.getElem_cons_succ, List.getElem_cons_zero, List.setIfInBounds_toArray, List.set_cons_zero, List.set_cons_succ]
        refine wpAnyL_take (i := 7) (v := ?_) rfl (by kernel_rfl) (by kernel_rfl) (by kernel_rfl) (by kernel_rfl) (by kernel_rfl) (fun _ _ _ h => h) (Or.inl ⟨by kernel_rfl, ?_⟩) s19 ?_
        rotate_left
        · rintro w' ⟨h1, h2, h3, h4, h5, h6, h7, h8⟩; go_simp; (try with_reducible rfl)
        try simp only [Act.put, List.getElem_toArray, List.getElem_cons_succ, List.getElem_cons_zero, List.setIfInBounds_toArray, List.set_cons_zero, List.set_cons_succ]
        refine wpAnyL_one (i := 8) (by kernel_rfl) rfl (fun K hK => ?_)
        go_simp
        refine hK.out _ _ (fun _ => s19) ?_
        clear hK K
        try simp only [Act.put, List.getElem_toArray, List.getElem_cons_succ, List.getElem_cons_zero, List.setIfInBounds_toArray, List.set_cons_zero, List.set_cons_succ]
        refine wpAnyL_done (by kernel_rfl) ?_ _
        go_wp2_with fail
        go_ret
        exact ⟨rfl, R19.bel⟩
  · have HX := Lib.hid hx
    clear hx
    go_enter Tryz.func6, Tryz.ntmps6
    go_wp2_with fail
    refine (qawake_any _).mono ?_; rintro e w1 ⟨rfl, hb1⟩
    have R1 := (R0.below hb1)
    clear hb1 R0
    have k2a0 := R1.cell 2 0 rfl rfl
    have k2a1 := R1.cell 2 1 rfl rfl
    have k2a2 := R1.cell 2 2 rfl rfl
    have k2a3 := R1.cell 2 3 rfl rfl
    go_wp2_with fail
    clear k2a0 k2a1 k2a2 k2a3
    refine (qfew _ _ _ _ _ _ _ _ _).mono ?_; rintro e w2 ⟨rfl, hb2⟩
    have R2 := (R1.below hb2)
    clear hb2 R1
    rw [decide_eq_true hfa.out]
    have k3b0 := R2.cell 1 0 rfl rfl
    have k3b1 := R2.cell 1 1 rfl rfl
    have k3b2 := R2.cell 1 2 rfl rfl
    have k3b3 := R2.cell 1 3 rfl rfl
    go_wp2_with fail
    clear k3b0 k3b1 k3b2 k3b3
    refine (qfew _ _ _ _ _ _ _ _ _).mono ?_; rintro e w3 ⟨rfl, hb3⟩
    have R3 := (R2.below hb3)
    clear hb3 R2
    rw [decide_eq_true hfb.out]
    have k4c0 := R3.cell 0 0 rfl rfl
    have k4c1 := R3.cell 0 1 rfl rfl
    have k4c2 := R3.cell 0 2 rfl rfl
    have k4c3 := R3.cell 0 3 rfl rfl
    go_wp2_with fail
    clear k4c0 k4c1 k4c2 k4c3
    refine (qfew _ _ _ _ _ _ _ _ _).mono ?_; rintro e w4 ⟨rfl, hb4⟩
    have R4 := (R3.below hb4)
    clear hb4 R3
    rw [decide_eq_true hfc.out]
    have k5a0 := R4.cell 2 0 rfl rfl
    have k5a1 := R4.cell 2 1 rfl rfl
    have k5a2 := R4.cell 2 2 rfl rfl
    have k5a3 := R4.cell 2 3 rfl rfl
    have k5b0 := R4.cell 1 0 rfl rfl
    have k5b1 := R4.cell 1 1 rfl rfl
    have k5b2 := R4.cell 1 2 rfl rfl
    have k5b3 := R4.cell 1 3 rfl rfl
    go_wp2_with fail
    clear k5a0 k5a1 k5a2 k5a3 k5b0 k5b1 k5b2 k5b3
    refine (qcmp_ (k := 4) (R4.z 5 rfl) (R4.z 4 rfl) (R4.z 3 rfl) (R4.z 2 rfl) (by decide) (by decide) (by decide) (by decide) (by decide) (by decide) Ha.out Hb.out HX.out).mono ?_; rintro e w5 ⟨rfl, hb5⟩
    have R5 := (R4.below hb5)
    clear hb5 R4
    have k6b0 := R5.cell 1 0 rfl rfl
    have k6b1 := R5.cell 1 1 rfl rfl
    have k6b2 := R5.cell 1 2 rfl rfl
    have k6b3 := R5.cell 1 3 rfl rfl
    have k6c0 := R5.cell 0 0 rfl rfl
    have k6c1 := R5.cell 0 1 rfl rfl
    have k6c2 := R5.cell 0 2 rfl rfl
    have k6c3 := R5.cell 0 3 rfl rfl
    go_wp2_with fail
    clear k6b0 k6b1 k6b2 k6b3 k6c0 k6c1 k6c2 k6c3
    refine (qcmp_ (k := 4) (R5.z 3 rfl) (R5.z 2 rfl) (R5.z 1 rfl) (R5.z 0 rfl) (by decide) (by decide) (by decide) (by decide) (by decide) (by decide) Hb.out Hc.out Hy.out).mono ?_; rintro e w6 ⟨rfl, hb6⟩
    have R6 := (R5.below hb6)
    clear hb6 R5
    have k7a0 := R6.cell 2 0 rfl rfl
    have k7a1 := R6.cell 2 1 rfl rfl
    have k7a2 := R6.cell 2 2 rfl rfl
    have k7a3 := R6.cell 2 3 rfl rfl
    have k7c0 := R6.cell 0 0 rfl rfl
    have k7c1 := R6.cell 0 1 rfl rfl
    have k7c2 := R6.cell 0 2 rfl rfl
    have k7c3 := R6.cell 0 3 rfl rfl
    go_wp2_with fail
    clear k7a0 k7a1 k7a2 k7a3 k7c0 k7c1 k7c2 k7c3
    refine (qcmp_ (k := 4) (R6.z 5 rfl) (R6.z 4 rfl) (R6.z 1 rfl) (R6.z 0 rfl) (by decide) (by decide) (by decide) (by decide) (by decide) (by decide) Ha.out Hc.out Hz.out).mono ?_; rintro e w7 ⟨rfl, hb7⟩
    have R7 := (R6.below hb7)
    clear hb7 R6
    go_wp2_with fail
    have D8 := R7.drew
    have s8 := And.intro (D8.cell 2 0 rfl rfl) (And.intro (D8.cell 2 1 rfl rfl) (And.intro (D8.cell 2 2 rfl rfl) (And.intro (D8.cell 2 3 rfl rfl) (And.intro (D8.cell 1 0 rfl rfl) (And.intro (D8.cell 1 1 rfl rfl) (And.intro (D8.cell 1 2 rfl rfl) (D8.cell 1 3 rfl rfl)))))))
    refine wp_region_late [] (fun w' => w'.cell? ⟨w.heap.size, 0, none⟩ = some (.bool ba) ∧ w'.cell? ⟨w.heap.size, 1, none⟩ = some (.slice Aa na ca) ∧ w'.cell? ⟨w.heap.size, 2, none⟩ = some (.bool ba') ∧ w'.cell? ⟨w.heap.size, 3, none⟩ = some (.slice Aa' na' ca') ∧ w'.cell? ⟨w.heap.size + 1, 0, none⟩ = some (.bool bb) ∧ w'.cell? ⟨w.heap.size + 1, 1, none⟩ = some (.slice Ab nb cb) ∧ w'.cell? ⟨w.heap.size + 1, 2, none⟩ = some (.bool bb') ∧ w'.cell? ⟨w.heap.size + 1, 3, none⟩ = some (.slice Ab' nb' cb')) (by kernel_rfl) ?_
    refine wpAnyL_take (i := 0) (v := ?_) rfl (by kernel_rfl) (by kernel_rfl) (by kernel_rfl) (by kernel_rfl) (by kernel_rfl) (fun _ _ _ h => h) (Or.inl ⟨by kernel_rfl, ?_⟩) s8 ?_
    rotate_left
    · rintro w' ⟨h1, h2, h3, h4, h5, h6, h7, h8⟩; go_simp; (try with_reducible rfl)
    try simp only [Act.put, List.getElem_toArray, List.getElem_cons_succ, List.getElem_cons_zero, List.setIfInBounds_toArray, List.set_cons_zero, List.set_cons_succ]
    refine wpAnyL_take (i := 1) (v := ?_) rfl (by kernel_rfl) (by kernel_rfl) (by kernel_rfl) (by kernel_rfl) (by kernel_rfl) (fun _ _ _ h => h) (Or.inl ⟨by kernel_rfl, ?_⟩) s8 ?_
    rotate_left
    · rintro w' ⟨h1, h2, h3, h4, h5, h6, h7, h8⟩; go_simp; (try with_reducible rfl)
    try simp only [Act.put, List.getElem_toArray, List.getElem_cons_succ, List.getElem_cons_zero, List.setIfInBounds_toArray, List.set_cons_zero, List.set_cons_succ]
    refine wpAnyL_take (i := 2) (v := ?_) rfl (by kernel_rfl) (by kernel_rfl) (by kernel_rfl) (by kernel_rfl) (by kernel_rfl) (fun _ _ _ h => h) (Or.inl ⟨by kernel_rfl, ?_⟩) s8 ?_
    rotate_left
    · rintro w' ⟨h1, h2, h3, h4, h5, h6, h7, h8⟩; go_simp; (try with_reducible rfl)
    try simp only [Act.put, List.getElem_toArray, List.getElem_cons_succ, List.getElem_cons_zero, List.setIfInBounds_toArray, List.set_cons_zero, List.set_cons_succ]
    refine wpAnyL_one (i := 3) (by kernel_rfl) rfl (fun K hK => ?_)
    go_simp
    refine (qsub (k := 4) (D8.z 5 rfl) (D8.z 4 rfl) (D8.z 3 rfl) (D8.z 2 rfl) (by decide) (by decide) (by decide) (by decide) (by decide) (by decide) Ha.out Hb.out).mono ?_; rintro e w9 ⟨b_sn, A_sn, n_sn, b_sd, A_sd, n_sd, rfl, z_sn, z_sd, hb9⟩
    have R9 := (((D8.below hb9).add z_sn).add z_sd)
    have s9 := And.intro (R9.cell 2 0 rfl rfl) (And.intro (R9.cell 2 1 rfl rfl) (And.intro (R9.cell 2 2 rfl rfl) (And.intro (R9.cell 2 3 rfl rfl) (And.intro (R9.cell 1 0 rfl rfl) (And.intro (R9.cell 1 1 rfl rfl) (And.intro (R9.cell 1 2 rfl rfl) (R9.cell 1 3 rfl rfl)))))))
    clear z_sn z_sd hb9 D8 s8
    go_wp2_with fail
    refine hK.out _ _ (fun _ => s9) ?_
    clear hK K
    try simp only [Act.put, List.getElem_toArray, List.getElem_cons_succ, List.getElem_cons_zero, List.setIfInBounds_toArray, List.set_cons_zero, List.set_cons_succ]
    refine wpAnyL_one (i := 4) (by kernel_rfl) rfl (fun K hK => ?_)
    go_simp
    refine (rqzero _).mono ?_; rintro e w10 ⟨b_zen, A_zen, n_zen, c_zen, b_zed, A_zed, n_zed, c_zed, rfl, z_zen, z_zed, hb10⟩
    have R10 := (((R9.below hb10).add z_zen).add z_zed)
    have s10 := And.intro (R10.cell 2 0 rfl rfl) (And.intro (R10.cell 2 1 rfl rfl) (And.intro (R10.cell 2 2 rfl rfl) (And.intro (R10.cell 2 3 rfl rfl) (And.intro (R10.cell 1 0 rfl rfl) (And.intro (R10.cell 1 1 rfl rfl) (And.intro (R10.cell 1 2 rfl rfl) (R10.cell 1 3 rfl rfl)))))))
    clear z_zen z_zed hb10 R9 s9
    go_wp2_with fail
    refine hK.out _ _ (fun _ => s10) ?_
    clear hK K
    try simp only [Act.put, List.getElem_toArray, List.getElem_cons_succ, List.getElem_cons_zero, List.setIfInBounds_toArray, List.set_cons_zero, List.set_cons_succ]
    refine wpAnyL_one (i := 5) (by kernel_rfl) rfl (fun K hK => ?_)
    go_simp
    refine (qcmp_ (k := 9) (R10.z 3 rfl) (R10.z 2 rfl) (R10.z 1 rfl) (R10.z 0 rfl) (by decide) (by decide) (by decide) (by decide) (by decide) (by decide) (qv_self ((ra - rb))) (qv_self (0)) ((qcmp_sub ra rb).trans HX.out)).mono ?_; rintro e w11 ⟨rfl, hb11⟩
    have R11 := (R10.below hb11)
    have s11 := And.intro (R11.cell 2 0 rfl rfl) (And.intro (R11.cell 2 1 rfl rfl) (And.intro (R11.cell 2 2 rfl rfl) (And.intro (R11.cell 2 3 rfl rfl) (And.intro (R11.cell 1 0 rfl rfl) (And.intro (R11.cell 1 1 rfl rfl) (And.intro (R11.cell 1 2 rfl rfl) (R11.cell 1 3 rfl rfl)))))))
    clear hb11 R10 s10
    go_wp2_with fail
    refine hK.out _ _ (fun _ => s11) ?_
    clear hK K
    try simp only [Act.put, List.getElem_toArray, List.getElem_cons_succ, List.getElem_cons_zero, List.setIfInBounds_toArray, List.set_cons_zero, List.set_cons_succ]
    refine wpAnyL_take (i := 6) (v := ?_) rfl (by kernel_rfl) (by kernel_rfl) (by kernel_rfl) (by kernel_rfl) (by kernel_rfl) (fun _ _ _ h => h) (Or.inl ⟨by kernel_rfl, ?_⟩) s11 ?_
    rotate_left
    · rintro w' ⟨h1, h2, h3, h4, h5, h6, h7, h8⟩; go_simp; (try with_reducible rfl)
    try simp only [Act.put, List.getElem_toArray, List.getElem_cons_succ, List.getElem_cons_zero, List.setIfInBounds_toArray, List.set_cons_zero, List.set_cons_succ]
    refine wpAnyL_take (i := 7) (v := ?_) rfl (by kernel_rfl) (by kernel_rfl) (by kernel_rfl) (by kernel_rfl) (by kernel_rfl) (fun _ _ _ h => h) (Or.inl ⟨by kernel_rfl, ?_⟩) s11 ?_
    rotate_left
    · rintro w' ⟨h1, h2, h3, h4, h5, h6, h7, h8⟩; go_simp; (try with_reducible rfl)
    try simp only [Act.put, List.getElem_toArray, List.getElem_cons_succ, List.getElem_cons_zero, List.setIfInBounds_toArray, List.set_cons_zero, List.set_cons_succ]
    refine wpAnyL_take (i := 8) (v := ?_) rfl (by kernel_rfl) (by kernel_rfl) (by kernel_rfl) (by kernel_rfl) (by kernel_rfl) (fun _ _ _ h => h) (Or.inl ⟨by kernel_rfl, ?_⟩) s11 ?_
    rotate_left
    · rintro w' ⟨h1, h2, h3, h4, h5, h6, h7, h8⟩; go_simp; (try with_reducible rfl)
    try simp only [Act.put, List.getElem_toArray, List.getElem_cons_succ, List.getElem_cons_zero, List.setIfInBounds_toArray, List.set_cons_zero, List.set_cons_succ]
    refine wpAnyL_take (i := 9) (v := ?_) rfl (by kernel_rfl) (by kernel_rfl) (by kernel_rfl) (by kernel_rfl) (by kernel_rfl) (fun _ _ _ h => h) (Or.inl ⟨by kernel_rfl, ?_⟩) s11 ?_
    rotate_left
    · rintro w' ⟨h1, h2, h3, h4, h5, h6, h7, h8⟩; go_simp; (try with_reducible rfl)
    try simp only [Act.put, List.getElem_toArray, List.getElem_cons_succ, List.getElem_cons_zero, List.setIfInBounds_toArray, List.set_cons_zero, List.set_cons_succ]
    refine wpAnyL_take (i := 10) (v := ?_) rfl (by kernel_rfl) (by kernel_rfl) (by kernel_rfl) (by kernel_rfl) (by kernel_rfl) (fun _ _ _ h => h) (Or.inl ⟨by kernel_rfl, ?_⟩) s11 ?_
    rotate_left
    · rintro w' ⟨h1, h2, h3, h4, h5, h6, h7, h8⟩; go_simp; (try with_reducible rfl)
    try simp only [Act.put, List.getElem_toArray, List.getElem_cons_succ, List.getElem_cons_zero, List.setIfInBounds_toArray, List.set_cons_zero, List.set_cons_succ]
    refine wpAnyL_one (i := 11) (by kernel_rfl) rfl (fun K hK => ?_)
    go_simp
    refine (qcmp_ (k := 4) (R11.z 7 rfl) (R11.z 6 rfl) (R11.z 9 rfl) (R11.z 8 rfl) (by decide) (by decide) (by decide) (by decide) (by decide) (by decide) Hb.out Ha.out (show qcmp rb ra = (-1) from by rw [qcmp_swap ra rb, HX.out] <;> rfl)).mono ?_; rintro e w12 ⟨rfl, hb12⟩
    have R12 := (R11.below hb12)
    have s12 := And.intro (R12.cell 2 0 rfl rfl) (And.intro (R12.cell 2 1 rfl rfl) (And.intro (R12.cell 2 2 rfl rfl) (And.intro (R12.cell 2 3 rfl rfl) (And.intro (R12.cell 1 0 rfl rfl) (And.intro (R12.cell 1 1 rfl rfl) (And.intro (R12.cell 1 2 rfl rfl) (R12.cell 1 3 rfl rfl)))))))
    clear hb12 R11 s11
    go_wp2_with fail
    refine hK.out _ _ (fun _ => s12) ?_
    clear hK K
    try simp only [Act.put, List.getElem_toArray, List.getElem_cons_succ, List.getElem_cons_zero, List.setIfInBounds_toArray, List.set_cons_zero, List.set_cons_succ]
    refine wpAnyL_take (i := 12) (v := ?_) rfl (by kernel_rfl) (by kernel_rfl) (by kernel_rfl) (by kernel_rfl) (by kernel_rfl) (fun _ _ _ h => h) (Or.inl ⟨by kernel_rfl, ?_⟩) s12 ?_
    rotate_left
    · rintro w' ⟨h1, h2, h3, h4, h5, h6, h7, h8⟩; go_simp; (try with_reducible rfl)
    try simp only [Act.put, List.getElem_toArray, List.getElem_cons_succ, List.getElem_cons_zero, List.setIfInBounds_toArray, List.set_cons_zero, List.set_cons_succ]
    refine wpAnyL_take (i := 13) (v := ?_) rfl (by kernel_rfl) (by kernel_rfl) (by kernel_rfl) (by kernel_rfl) (by kernel_rfl) (fun _ _ _ h => h) (Or.inl ⟨by kernel_rfl, ?_⟩) s12 ?_
    rotate_left
    · rintro w' ⟨h1, h2, h3, h4, h5, h6, h7, h8⟩; go_simp; (try with_reducible rfl)
    try simp only [Act.put, List.getElem_toArray, List.getElem_cons_succ, List.getElem_cons_zero, List.setIfInBounds_toArray, List.set_cons_zero, List.set_cons_succ]
    refine wpAnyL_take (i := 14) (v := ?_) rfl (by kernel_rfl) (by kernel_rfl) (by kernel_rfl) (by kernel_rfl) (by kernel_rfl) (fun _ _ _ h => h) (Or.inl ⟨by kernel_rfl, ?_⟩) s12 ?_
    rotate_left
    · rintro w' ⟨h1, h2, h3, h4, h5, h6, h7, h8⟩; go_simp; (try with_reducible rfl)
    try simp only [Act.put, List.getElem_toArray, List.getElem_cons_succ, List.getElem_cons_zero, List.setIfInBounds_toArray, List.set_cons_zero, List.set_cons_succ]
    refine wpAnyL_take (i := 15) (v := ?_) rfl (by kernel_rfl) (by kernel_rfl) (by kernel_rfl) (by kernel_rfl) (by kernel_rfl) (fun _ _ _ h => h) (Or.inl ⟨by kernel_rfl, ?_⟩) s12 ?_
    rotate_left
    · rintro w' ⟨h1, h2, h3, h4, h5, h6, h7, h8⟩; go_simp; (try with_reducible rfl)
    try simp only [Act.put, List.getElem_toArray, List.getElem_cons_succ, List.getElem_cons_zero, List.setIfInBounds_toArray, List.set_cons_zero, List.set_cons_succ]
    refine wpAnyL_take (i := 16) (v := ?_) rfl (by kernel_rfl) (by kernel_rfl) (by kernel_rfl) (by kernel_rfl) (by kernel_rfl) (fun _ _ _ h => h) (Or.inl ⟨by kernel_rfl, ?_⟩) s12 ?_
    rotate_left
    · rintro w' ⟨h1, h2, h3, h4, h5, h6, h7, h8⟩; go_simp; (try with_reducible rfl)
    try simp only [Act.put, List.getElem_toArray, List.getElem_cons_succ, List.getElem_cons_zero, List.setIfInBounds_toArray, List.set_cons_zero, List.set_cons_succ]
    refine wpAnyL_take (i := 17) (v := ?_) rfl (by kernel_rfl) (by kernel_rfl) (by kernel_rfl) (by kernel_rfl) (by kernel_rfl) (fun _ _ _ h => h) (Or.inl ⟨by kernel_rfl, ?_⟩) s12 ?_
    rotate_left
    · rintro w' ⟨h1, h2, h3, h4, h5, h6, h7, h8⟩; go_simp; (try with_reducible rfl)
    try simp only [Act.put, List.getElem_toArray, List.getElem_cons_succ, List.getElem_cons_zero, List.setIfInBounds_toArray, List.set_cons_zero, List.set_cons_succ]
    refine wpAnyL_take (i := 19) (v := ?_) rfl (by kernel_rfl) (by kernel_rfl) (by kernel_rfl) (by kernel_rfl) (by kernel_rfl) (fun _ _ _ h => h) (Or.inl ⟨by kernel_rfl, ?_⟩) s12 ?_
    rotate_left
    · rintro w' ⟨h1, h2, h3, h4, h5, h6, h7, h8⟩; go_simp; (try with_reducible rfl)
    try simp only [Act.put, List.getElem_toArray, List.getElem_cons_succ, List.getElem_cons_zero, List.setIfInBounds_toArray, List.set_cons_zero, List.set_cons_succ]
    refine wpAnyL_one (i := 18) (by kernel_rfl) rfl (fun K hK => ?_)
    go_simp
    refine (qplain (K := 4) (R12.z 9 rfl) (R12.z 8 rfl) (by decide) (by decide) (by decide) (by decide) Ha.out).mono ?_; rintro e w13 ⟨b_pan, A_pan, n_pan, b_pad, A_pad, n_pad, rfl, z_pan, z_pad, hb13⟩
    have R13 := (((R12.below hb13).add z_pan).add z_pad)
    have s13 := And.intro (R13.cell 2 0 rfl rfl) (And.intro (R13.cell 2 1 rfl rfl) (And.intro (R13.cell 2 2 rfl rfl) (And.intro (R13.cell 2 3 rfl rfl) (And.intro (R13.cell 1 0 rfl rfl) (And.intro (R13.cell 1 1 rfl rfl) (And.intro (R13.cell 1 2 rfl rfl) (R13.cell 1 3 rfl rfl)))))))
    clear z_pan z_pad hb13 R12 s12
    go_wp2_with fail
    refine hK.out _ _ (fun _ => s13) ?_
    clear hK K
    try simp only [Act.put, List.getElem_toArray, List.getElem_cons_succ, List.getElem_cons_zero, List.setIfInBounds_toArray, List.set_cons_zero, List.set_cons_succ]
    refine wpAnyL_one (i := 20) (by kernel_rfl) rfl (fun K hK => ?_)
    go_simp
    refine (qplain (K := 4) (R13.z 9 rfl) (R13.z 8 rfl) (by decide) (by decide) (by decide) (by decide) Hb.out).mono ?_; rintro e w14 ⟨b_pbn, A_pbn, n_pbn, b_pbd, A_pbd, n_pbd, rfl, z_pbn, z_pbd, hb14⟩
    have R14 := (((R13.below hb14).add z_pbn).add z_pbd)
    have s14 := And.intro (R14.cell 2 0 rfl rfl) (And.intro (R14.cell 2 1 rfl rfl) (And.intro (R14.cell 2 2 rfl rfl) (And.intro (R14.cell 2 3 rfl rfl) (And.intro (R14.cell 1 0 rfl rfl) (And.intro (R14.cell 1 1 rfl rfl) (And.intro (R14.cell 1 2 rfl rfl) (R14.cell 1 3 rfl rfl)))))))
    clear z_pbn z_pbd hb14 R13 s13
    go_wp2_with fail
    refine hK.out _ _ (fun _ => s14) ?_
    clear hK K
    try simp only [Act.put, List.getElem_toArray, List.getElem_cons_succ, List.getElem_cons_zero, List.setIfInBounds_toArray, List.set_cons_zero, List.set_cons_succ]
    refine wpAnyL_one (i := 21) (by kernel_rfl) rfl (fun K hK => ?_)
    go_simp
    refine (qcmp_ (k := 4) (R14.z 3 rfl) (R14.z 2 rfl) (R14.z 1 rfl) (R14.z 0 rfl) (by decide) (by decide) (by decide) (by decide) (by decide) (by decide) (qv_self (ra)) (qv_self (rb)) HX.out).mono ?_; rintro e w15 ⟨rfl, hb15⟩
    have R15 := (R14.below hb15)
    have s15 := And.intro (R15.cell 2 0 rfl rfl) (And.intro (R15.cell 2 1 rfl rfl) (And.intro (R15.cell 2 2 rfl rfl) (And.intro (R15.cell 2 3 rfl rfl) (And.intro (R15.cell 1 0 rfl rfl) (And.intro (R15.cell 1 1 rfl rfl) (And.intro (R15.cell 1 2 rfl rfl) (R15.cell 1 3 rfl rfl)))))))
    clear hb15 R14 s14
    go_wp2_with fail
    refine hK.out _ _ (fun _ => s15) ?_
    clear hK K
    try simp only [Act.put, List.getElem_toArray, List.getElem_cons_succ, List.getElem_cons_zero, List.setIfInBounds_toArray, List.set_cons_zero, List.set_cons_succ]
    refine wpAnyL_take (i := 22) (v := ?_) rfl (by kernel_rfl) (by kernel_rfl) (by kernel_rfl) (by kernel_rfl) (by kernel_rfl) (fun _ _ _ h => h) (Or.inl ⟨by kernel_rfl, ?_⟩) s15 ?_
    rotate_left
    · rintro w' ⟨h1, h2, h3, h4, h5, h6, h7, h8⟩; go_simp; (try with_reducible rfl)
    try simp only [Act.put, List.getElem_toArray, List.getElem_cons_succ, List.getElem_cons_zero, List.setIfInBounds_toArray, List.set_cons_zero, List.set_cons_succ]
    refine wpAnyL_take (i := 23) (v := ?_) rfl (by kernel_rfl) (by kernel_rfl) (by kernel_rfl) (by kernel_rfl) (by kernel_rfl) (fun _ _ _ h => h) (Or.inl ⟨by kernel_rfl, ?_⟩) s15 ?_
    rotate_left
    · rintro w' ⟨h1, h2, h3, h4, h5, h6, h7, h8⟩; go_simp; (try with_reducible rfl)
    try simp only [Act.put, List.getElem_toArray, List.getElem_cons_succ, List.getElem_cons_zero, List.setIfInBounds_toArray, List.set_cons_zero, List.set_cons_succ]
    refine wpAnyL_done (by kernel_rfl) ?_ _
    rcases (Hy.out ▸ qcmp_cases rb rc : y = -1 ∨ y = 0 ∨ y = 1) with rfl | rfl | rfl
    · rcases (Hz.out ▸ qcmp_cases ra rc : z = -1 ∨ z = 0 ∨ z = 1) with rfl | rfl | rfl
      · skip
        go_wp2_with fail
        have D16 := R15.drew
        have s16 := And.intro (D16.cell 2 0 rfl rfl) (And.intro (D16.cell 2 1 rfl rfl) (And.intro (D16.cell 2 2 rfl rfl) (And.intro (D16.cell 2 3 rfl rfl) (And.intro (D16.cell 1 0 rfl rfl) (And.intro (D16.cell 1 1 rfl rfl) (And.intro (D16.cell 1 2 rfl rfl) (D16.cell 1 3 rfl rfl)))))))
        refine wp_region_late [] (fun w' => w'.cell? ⟨w.heap.size, 0, none⟩ = some (.bool ba) ∧ w'.cell? ⟨w.heap.size, 1, none⟩ = some (.slice Aa na ca) ∧ w'.cell? ⟨w.heap.size, 2, none⟩ = some (.bool ba') ∧ w'.cell? ⟨w.heap.size, 3, none⟩ = some (.slice Aa' na' ca') ∧ w'.cell? ⟨w.heap.size + 1, 0, none⟩ = some (.bool bb) ∧ w'.cell? ⟨w.heap.size + 1, 1, none⟩ = some (.slice Ab nb cb) ∧ w'.cell? ⟨w.heap.size + 1, 2, none⟩ = some (.bool bb') ∧ w'.cell? ⟨w.heap.size + 1, 3, none⟩ = some (.slice Ab' nb' cb')) (by kernel_rfl) ?_
        refine wpAnyL_take (i := 0) (v := ?_) rfl (by kernel_rfl) (by kernel_rfl) (by kernel_rfl) (by kernel_rfl) (by kernel_rfl) (fun _ _ _ h => h) (Or.inl ⟨by kernel_rfl, ?_⟩) s16 ?_
        rotate_left
        · rintro w' ⟨h1, h2, h3, h4, h5, h6, h7, h8⟩; go_simp; (try with_reducible rfl)
        try simp only [Act.put, List.getElem_toArray, List.getElem_cons_succ, List.getElem_cons_zero, List.setIfInBounds_toArray, List.set_cons_zero, List.set_cons_succ]
        refine wpAnyL_take (i := 1) (v := ?_) rfl (by kernel_rfl) (by kernel_rfl) (by kernel_rfl) (by kernel_rfl) (by kernel_rfl) (fun _ _ _ h => h) (Or.inl ⟨by kernel_rfl, ?_⟩) s16 ?_
        rotate_left
        · rintro w' ⟨h1, h2, h3, h4, h5, h6, h7, h8⟩; go_simp; (try with_reducible rfl)
        try simp only [Act.put, List.getElem_toArray, List.getElem_cons_succ, List.getElem_cons_zero, List.setIfInBounds_toArray, List.set_cons_zero, List.set_cons_succ]
        refine wpAnyL_take (i := 2) (v := ?_) rfl (by kernel_rfl) (by kernel_rfl) (by kernel_rfl) (by kernel_rfl) (by kernel_rfl) (fun _ _ _ h => h) (Or.inl ⟨by kernel_rfl, ?_⟩) s16 ?_
        rotate_left
        · rintro w' ⟨h1, h2, h3, h4, h5, h6, h7, h8⟩; go_simp; (try with_reducible rfl)
        try simp only [Act.put, List.getElem_toArray, List.getElem_cons_succ, List.getElem_cons_zero, List.setIfInBounds_toArray, List.set_cons_zero, List.set_cons_succ]
        refine wpAnyL_take (i := 4) (v := ?_) rfl (by kernel_rfl) (by kernel_rfl) (by kernel_rfl) (by kernel_rfl) (by kernel_rfl) (fun _ _ _ h => h) (Or.inl ⟨by kernel_rfl, ?_⟩) s16 ?_
        rotate_left
        · rintro w' ⟨h1, h2, h3, h4, h5, h6, h7, h8⟩; go_simp; (try with_reducible rfl)
        try simp only [Act.put, List.getElem_toArray, List.getElem_cons_succ, List.getElem_cons_zero, List.setIfInBounds_toArray, List.set_cons_zero, List.set_cons_succ]
        refine wpAnyL_one (i := 3) (by kernel_rfl) rfl (fun K hK => ?_)
        go_simp
        refine (qplain (K := 4) (D16.z 13 rfl) (D16.z 12 rfl) (by decide) (by decide) (by decide) (by decide) Ha.out).mono ?_; rintro e w17 ⟨b_uan, A_uan, n_uan, b_uad, A_uad, n_uad, rfl, z_uan, z_uad, hb17⟩
        have R17 := (((D16.below hb17).add z_uan).add z_uad)
        have s17 := And.intro (R17.cell 2 0 rfl rfl) (And.intro (R17.cell 2 1 rfl rfl) (And.intro (R17.cell 2 2 rfl rfl) (And.intro (R17.cell 2 3 rfl rfl) (And.intro (R17.cell 1 0 rfl rfl) (And.intro (R17.cell 1 1 rfl rfl) (And.intro (R17.cell 1 2 rfl rfl) (R17.cell 1 3 rfl rfl)))))))
        clear z_uan z_uad hb17 D16 s16
        go_wp2_with fail
        refine hK.out _ _ (fun _ => s17) ?_
        clear hK K
        try simp only [Act.put, List.getElem_toArray, List.getElem_cons_succ, List.getElem_cons_zero, List.setIfInBounds_toArray, List.set_cons_zero, List.set_cons_succ]
        refine wpAnyL_one (i := 5) (by kernel_rfl) rfl (fun K hK => ?_)
        go_simp
        refine (qplain (K := 4) (R17.z 13 rfl) (R17.z 12 rfl) (by decide) (by decide) (by decide) (by decide) Hb.out).mono ?_; rintro e w18 ⟨b_ubn, A_ubn, n_ubn, b_ubd, A_ubd, n_ubd, rfl, z_ubn, z_ubd, hb18⟩
        have R18 := (((R17.below hb18).add z_ubn).add z_ubd)
        have s18 := And.intro (R18.cell 2 0 rfl rfl) (And.intro (R18.cell 2 1 rfl rfl) (And.intro (R18.cell 2 2 rfl rfl) (And.intro (R18.cell 2 3 rfl rfl) (And.intro (R18.cell 1 0 rfl rfl) (And.intro (R18.cell 1 1 rfl rfl) (And.intro (R18.cell 1 2 rfl rfl) (R18.cell 1 3 rfl rfl)))))))
        clear z_ubn z_ubd hb18 R17 s17
        go_wp2_with fail
        refine hK.out _ _ (fun _ => s18) ?_
        clear hK K
        try simp only [Act.put, List.getElem_toArray, List.getElem_cons_succ, List.getElem_cons_zero, List.setIfInBounds_toArray, List.set_cons_zero, List.set_cons_succ]
        refine wpAnyL_one (i := 6) (by kernel_rfl) rfl (fun K hK => ?_)
        go_simp
        refine (rqsame (R18.z 3 rfl) (R18.z 2 rfl) (R18.z 1 rfl) (R18.z 0 rfl) (by decide) (by decide) (by decide) (by decide) (qsame_dec ra rb (decide_eq_false (fun e => absurd (HX.out.symm.trans (qcmp_eq.2 e)) (by decide))))).mono ?_; rintro e w19 ⟨rfl, hb19⟩
        have R19 := (R18.below hb19)
        have s19 := And.intro (R19.cell 2 0 rfl rfl) (And.intro (R19.cell 2 1 rfl rfl) (And.intro (R19.cell 2 2 rfl rfl) (And.intro (R19.cell 2 3 rfl rfl) (And.intro (R19.cell 1 0 rfl rfl) (And.intro (R19.cell 1 1 rfl rfl) (And.intro (R19.cell 1 2 rfl rfl) (R19.cell 1 3 rfl rfl)))))))
        clear hb19 R18 s18
        go_wp2_with fail
        refine hK.out _ _ (fun _ => s19) ?_
        clear hK K
        try simp only [Act.put, List.getElem_toArray, List.getElem_cons_succ, List.getElem_cons_zero, List.setIfInBounds_toArray, List.set_cons_zero, List.set_cons_succ]
        refine wpAnyL_take (i := 7) (v := ?_) rfl (by kernel_rfl) (by kernel_rfl) (by kernel_rfl) (by kernel_rfl) (by kernel_rfl) (fun _ _ _ h => h) (Or.inl ⟨by kernel_rfl, ?_⟩) s19 ?_
        rotate_left
        · rintro w' ⟨h1, h2, h3, h4, h5, h6, h7, h8⟩; go_simp; (try with_reducible rfl)
        try simp only [Act.put, List.getElem_toArray, List.getElem_cons_succ, List.getElem_cons_zero, List.setIfInBounds_toArray, List.set_cons_zero, List.set_cons_succ]
        refine wpAnyL_one (i := 8) (by kernel_rfl) rfl (fun K hK => ?_)
        go_simp
        refine hK.out _ _ (fun _ => s19) ?_
        clear hK K
        try simp only [Act.put, List.getElem_toArray, List.getElem_cons_succ, List.getElem_cons_zero, List.setIfInBounds_toArray, List.set_cons_zero, List.set_cons_succ]
        refine wpAnyL_done (by kernel_rfl) ?_ _
        go_wp2_with fail
        go_ret
        exact ⟨rfl, R19.bel⟩
      · skip
        go_wp2_with fail
        have D16 := R15.drew
        have s16 := And.intro (D16.cell 2 0 rfl rfl) (And.intro (D16.cell 2 1 rfl rfl) (And.intro (D16.cell 2 2 rfl rfl) (And.intro (D16.cell 2 3 rfl rfl) (And.intro (D16.cell 1 0 rfl rfl) (And.intro (D16.cell 1 1 rfl rfl) (And.intro (D16.cell 1 2 rfl rfl) (D16.cell 1 3 rfl rfl)))))))
        refine wp_region_late [] (fun w' => w'.cell? ⟨w.heap.size, 0, none⟩ = some (.bool ba) ∧ w'.cell? ⟨w.heap.size, 1, none⟩ = some (.slice Aa na ca) ∧ w'.cell? ⟨w.heap.size, 2, none⟩ = some (.bool ba') ∧ w'.cell? ⟨w.heap.size, 3, none⟩ = some (.slice Aa' na' ca') ∧ w'.cell? ⟨w.heap.size + 1, 0, none⟩ = some (.bool bb) ∧ w'.cell? ⟨w.heap.size + 1, 1, none⟩ = some (.slice Ab nb cb) ∧ w'.cell? ⟨w.heap.size + 1, 2, none⟩ = some (.bool bb') ∧ w'.cell? ⟨w.heap.size + 1, 3, none⟩ = some (.slice Ab' nb' cb')) (by kernel_rfl) ?_
        refine wpAnyL_take (i := 0) (v := ?_) rfl (by kernel_rfl) (by kernel_rfl) (by kernel_rfl) (by kernel_rfl) (by kernel_rfl) (fun _ _ _ h => h) (Or.inl ⟨by kernel_rfl, ?_⟩) s16 ?_
        rotate_left
        · rintro w' ⟨h1, h2, h3, h4, h5, h6, h7, h8⟩; go_simp; (try with_reducible rfl)
        try simp only [Act.put, List.getElem_toArray, List.getElem_cons_succ, List.getElem_cons_zero, List.setIfInBounds_toArray, List.set_cons_zero, List.set_cons_succ]
        refine wpAnyL_take (i := 1) (v := ?_) rfl (by kernel_rfl) (by kernel_rfl) (by kernel_rfl) (by kernel_rfl) (by kernel_rfl) (fun _ _ _ h => h) (Or.inl ⟨by kernel_rfl, ?_⟩) s16 ?_
        rotate_left
        · rintro w' ⟨h1, h2, h3, h4, h5, h6, h7, h8⟩; go_simp; (try with_reducible rfl)
        try simp only [Act.put, List.getElem_toArray, List.getElem_cons_succ, List.getElem_cons_zero, List.setIfInBounds_toArray, List.set_cons_zero, List.set_cons_succ]
        refine wpAnyL_take (i := 2) (v := ?_) rfl (by kernel_rfl) (by kernel_rfl) (by kernel_rfl) (by kernel_rfl) (by kernel_rfl) (fun _ _ _ h => h) (Or.inl ⟨by kernel_rfl, ?_⟩) s16 ?_
        rotate_left
        · rintro w' ⟨h1, h2, h3, h4, h5, h6, h7, h8⟩; go_simp; (try with_reducible rfl)
        try simp only [Act.put, List.getElem_toArray, List.getElem_cons_succ, List.getElem_cons_zero, List.setIfInBounds_toArray, List.set_cons_zero, List.set_cons_succ]
        refine wpAnyL_take (i := 4) (v := ?_) rfl (by kernel_rfl) (by kernel_rfl) (by kernel_rfl) (by kernel_rfl) (by kernel_rfl) (fun _ _ _ h => h) (Or.inl ⟨by kernel_rfl, ?_⟩) s16 ?_
        rotate_left
        · rintro w' ⟨h1, h2, h3, h4, h5, h6, h7, h8⟩; go_simp; (try with_reducible rfl)
        try simp only [Act.put, List.getElem_toArray, List.getElem_cons_succ, List.getElem_cons_zero, List.setIfInBounds_toArray, List.set_cons_zero, List.set_cons_succ]
        refine wpAnyL_one (i := 3) (by kernel_rfl) rfl (fun K hK => ?_)
        go_simp
        refine (qplain (K := 4) (D16.z 13 rfl) (D16.z 12 rfl) (by decide) (by decide) (by decide) (by decide) Ha.out).mono ?_; rintro e w17 ⟨b_uan, A_uan, n_uan, b_uad, A_uad, n_uad, rfl, z_uan, z_uad, hb17⟩
        have R17 := (((D16.below hb17).add z_uan).add z_uad)
        have s17 := And.intro (R17.cell 2 0 rfl rfl) (And.intro (R17.cell 2 1 rfl rfl) (And.intro (R17.cell 2 2 rfl rfl) (And.intro (R17.cell 2 3 rfl rfl) (And.intro (R17.cell 1 0 rfl rfl) (And.intro (R17.cell 1 1 rfl rfl) (And.intro (R17.cell 1 2 rfl rfl) (R17.cell 1 3 rfl rfl)))))))
        clear z_uan z_uad hb17 D16 s16
        go_wp2_with fail
        refine hK.out _ _ (fun _ => s17) ?_
        clear hK K
        try simp only [Act.put, List.getElem_toArray, List.getElem_cons_succ, List.getElem_cons_zero, List.setIfInBounds_toArray, List.set_cons_zero, List.set_cons_succ]
        refine wpAnyL_one (i := 5) (by kernel_rfl) rfl (fun K hK => ?_)
        go_simp
        refine (qplain (K := 4) (R17.z 13 rfl) (R17.z 12 rfl) (by decide) (by decide) (by decide) (by decide) Hb.out).mono ?_; rintro e w18 ⟨b_ubn, A_ubn, n_ubn, b_ubd, A_ubd, n_ubd, rfl, z_ubn, z_ubd, hb18⟩
        have R18 := (((R17.below hb18).add z_ubn).add z_ubd)
        have s18 := And.intro (R18.cell 2 0 rfl rfl) (And.intro (R18.cell 2 1 rfl rfl) (And.intro (R18.cell 2 2 rfl rfl) (And.intro (R18.cell 2 3 rfl rfl) (And.intro (R18.cell 1 0 rfl rfl) (And.intro (R18.cell 1 1 rfl rfl) (And.intro (R18.cell 1 2 rfl rfl) (R18.cell 1 3 rfl rfl)))))))
        clear z_ubn z_ubd hb18 R17 s17
        go_wp2_with fail
        refine hK.out _ _ (fun _ => s18) ?_
        clear hK K
        try simp only [Act.put, List.getElem_toArray, List.getElem_cons_succ, List.getElem_cons_zero, List.setIfInBounds_toArray, List.set_cons_zero, List.set_cons_succ]
        refine wpAnyL_one (i := 6) (by kernel_rfl) rfl (fun K hK => ?_)
        go_simp
        refine (rqsame (R18.z 3 rfl) (R18.z 2 rfl) (R18.z 1 rfl) (R18.z 0 rfl) (by decide) (by decide) (by decide) (by decide) (qsame_dec ra rb (decide_eq_false (fun e => absurd (HX.out.symm.trans (qcmp_eq.2 e)) (by decide))))).mono ?_; rintro e w19 ⟨rfl, hb19⟩
        have R19 := (R18.below hb19)
        have s19 := And.intro (R19.cell 2 0 rfl rfl) (And.intro (R19.cell 2 1 rfl rfl) (And.intro (R19.cell 2 2 rfl rfl) (And.intro (R19.cell 2 3 rfl rfl) (And.intro (R19.cell 1 0 rfl rfl) (And.intro (R19.cell 1 1 rfl rfl) (And.intro (R19.cell 1 2 rfl rfl) (R19.cell 1 3 rfl rfl)))))))
        clear hb19 R18 s18
        go_wp2_with fail
        refine hK.out _ _ (fun _ => s19) ?_
        clear hK K
        try simp only [Act.put, List.getElem_toArray, List.getElem_cons_succ, List.getElem_cons_zero, List.setIfInBounds_toArray, List.set_cons_zero, List.set_cons_succ]
        refine wpAnyL_take (i := 7) (v := ?_) rfl (by kernel_rfl) (by kernel_rfl) (by kernel_rfl) (by kernel_rfl) (by kernel_rfl) (fun _ _ _ h => h) (Or.inl ⟨by kernel_rfl, ?_⟩) s19 ?_
        rotate_left
        · rintro w' ⟨h1, h2, h3, h4, h5, h6, h7, h8⟩; go_simp; (try with_reducible rfl)
        try simp only [Act.put, List.getElem_toArray, List.getElem_cons_succ, List.getElem_cons_zero, List.setIfInBounds_toArray, List.set_cons_zero, List.set_cons_succ]
        refine wpAnyL_one (i := 8) (by kernel_rfl) rfl (fun K hK => ?_)
        go_simp
        refine hK.out _ _ (fun _ => s19) ?_
        clear hK K
        try simp only [Act.put, List.getElem_toArray, List.getElem_cons_succ, List.getElem_cons_zero, List.setIfInBounds_toArray, List.set_cons_zero, List.set_cons_succ]
        refine wpAnyL_done (by kernel_rfl) ?_ _
        go_wp2_with fail
        go_ret
        exact ⟨rfl, R19.bel⟩
      · skip
        go_wp2_with fail
        have D16 := R15.drew
        have s16 := And.intro (D16.cell 2 0 rfl rfl) (And.intro (D16.cell 2 1 rfl rfl) (And.intro (D16.cell 2 2 rfl rfl) (And.intro (D16.cell 2 3 rfl rfl) (And.intro (D16.cell 1 0 rfl rfl) (And.intro (D16.cell 1 1 rfl rfl) (And.intro (D16.cell 1 2 rfl rfl) (D16.cell 1 3 rfl rfl)))))))
        refine wp_region_late [] (fun w' => w'.cell? ⟨w.heap.size, 0, none⟩ = some (.bool ba) ∧ w'.cell? ⟨w.heap.size, 1, none⟩ = some (.slice Aa na ca) ∧ w'.cell? ⟨w.heap.size, 2, none⟩ = some (.bool ba') ∧ w'.cell? ⟨w.heap.size, 3, none⟩ = some (.slice Aa' na' ca') ∧ w'.cell? ⟨w.heap.size + 1, 0, none⟩ = some (.bool bb) ∧ w'.cell? ⟨w.heap.size + 1, 1, none⟩ = some (.slice Ab nb cb) ∧ w'.cell? ⟨w.heap.size + 1, 2, none⟩ = some (.bool bb') ∧ w'.cell? ⟨w.heap.size + 1, 3, none⟩ = some (.slice Ab' nb' cb')) (by kernel_rfl) ?_
        refine wpAnyL_take (i := 0) (v := ?_) rfl (by kernel_rfl) (by kernel_rfl) (by kernel_rfl) (by kernel_rfl) (by kernel_rfl) (fun _ _ _ h => h) (Or.inl ⟨by kernel_rfl, ?_⟩) s16 ?_
        rotate_left
        · rintro w' ⟨h1, h2, h3, h4, h5, h6, h7, h8⟩; go_simp; (try with_reducible rfl)
        try simp only [Act.put, List.getElem_toArray, List.getElem_cons_succ, List.getElem_cons_zero, List.setIfInBounds_toArray, List.set_cons_zero, List.set_cons_succ]
        refine wpAnyL_take (i := 1) (v := ?_) rfl (by kernel_rfl) (by kernel_rfl) (by kernel_rfl) (by kernel_rfl) (by kernel_rfl) (fun _ _ _ h => h) (Or.inl ⟨by kernel_rfl, ?_⟩) s16 ?_
        rotate_left
        · rintro w' ⟨h1, h2, h3, h4, h5, h6, h7, h8⟩; go_simp; (try with_reducible rfl)
        try simp only [Act.put, List.getElem_toArray, List.getElem_cons_succ, List.getElem_cons_zero, List.setIfInBounds_toArray, List.set_cons_zero, List.set_cons_succ]
        refine wpAnyL_take (i := 2) (v := ?_) rfl (by kernel_rfl) (by kernel_rfl) (by kernel_rfl) (by kernel_rfl) (by kernel_rfl) (fun _ _ _ h => h) (Or.inl ⟨by kernel_rfl, ?_⟩) s16 ?_
        rotate_left
        · rintro w' ⟨h1, h2, h3, h4, h5, h6, h7, h8⟩; go_simp; (try with_reducible rfl)
        try simp only [Act.put, List.getElem_toArray, List.getElem_cons_succ, List.getElem_cons_zero, List.setIfInBounds_toArray, List.set_cons_zero, List.set_cons_succ]
        refine wpAnyL_take (i := 4) (v := ?_) rfl (by kernel_rfl) (by kernel_rfl) (by kernel_rfl) (by kernel_rfl) (by kernel_rfl) (fun _ _ _ h => h) (Or.inl ⟨by kernel_rfl, ?_⟩) s16 ?_
        rotate_left
        · rintro w' ⟨h1, h2, h3, h4, h5, h6, h7, h8⟩; go_simp; (try with_reducible rfl)
        try simp only [Act.put, List.getElem_toArray, List.getElem_cons_succ, List.getElem_cons_zero, List.setIfInBounds_toArray, List.set_cons_zero, List.set_cons_succ]
        refine wpAnyL_one (i := 3) (by kernel_rfl) rfl (fun K hK => ?_)
        go_simp
        refine (qplain (K := 4) (D16.z 13 rfl) (D16.z 12 rfl) (by decide) (by decide) (by decide) (by decide) Ha.out).mono ?_; rintro e w17 ⟨b_uan, A_uan, n_uan, b_uad, A_uad, n_uad, rfl, z_uan, z_uad, hb17⟩
        have R17 := (((D16.below hb17).add z_uan).add z_uad)
        have s17 := And.intro (R17.cell 2 0 rfl rfl) (And.intro (R17.cell 2 1 rfl rfl) (And.intro (R17.cell 2 2 rfl rfl) (And.intro (R17.cell 2 3 rfl rfl) (And.intro (R17.cell 1 0 rfl rfl) (And.intro (R17.cell 1 1 rfl rfl) (And.intro (R17.cell 1 2 rfl rfl) (R17.cell 1 3 rfl rfl)))))))
        clear z_uan z_uad hb17 D16 s16
        go_wp2_with fail
        refine hK.out _ _ (fun _ => s17) ?_
        clear hK K
        try simp only [Act.put, List.getElem_toArray, List.getElem_cons_succ, List.getElem_cons_zero, List.setIfInBounds_toArray, List.set_cons_zero, List.set_cons_succ]
        refine wpAnyL_one (i := 5) (by kernel_rfl) rfl (fun K hK => ?_)
        go_simp
        refine (qplain (K := 4) (R17.z 13 rfl) (R17.z 12 rfl) (by decide) (by decide) (by decide) (by decide) Hb.out).mono ?_; rintro e w18 ⟨b_ubn, A_ubn, n_ubn, b_ubd, A_ubd, n_ubd, rfl, z_ubn, z_ubd, hb18⟩
        have R18 := (((R17.below hb18).add z_ubn).add z_ubd)
        have s18 := And.intro (R18.cell 2 0 rfl rfl) (And.intro (R18.cell 2 1 rfl rfl) (And.intro (R18.cell 2 2 rfl rfl) (And.intro (R18.cell 2 3 rfl rfl) (And.intro (R18.cell 1 0 rfl rfl) (And.intro (R18.cell 1 1 rfl rfl) (And.intro (R18.cell 1 2 rfl rfl) (R18.cell 1 3 rfl rfl)))))))
        clear z_ubn z_ubd hb18 R17 s17
        go_wp2_with fail
        refine hK.out _ _ (fun _ => s18) ?_
        clear hK K
        try simp only [Act.put, List.getElem_toArray, List.getElem_cons_succ, List.getElem_cons_zero, List.setIfInBounds_toArray, List.set_cons_zero, List.set_cons_succ]
        refine wpAnyL_one (i := 6) (by kernel_rfl) rfl (fun K hK => ?_)
        go_simp
        refine (rqsame (R18.z 3 rfl) (R18.z 2 rfl) (R18.z 1 rfl) (R18.z 0 rfl) (by decide) (by decide) (by decide) (by decide) (qsame_dec ra rb (decide_eq_false (fun e => absurd (HX.out.symm.trans (qcmp_eq.2 e)) (by decide))))).mono ?_; rintro e w19 ⟨rfl, hb19⟩
        have R19 := (R18.below hb19)
        have s19 := And.intro (R19.cell 2 0 rfl rfl) (And.intro (R19.cell 2 1 rfl rfl) (And.intro (R19.cell 2 2 rfl rfl) (And.intro (R19.cell 2 3 rfl rfl) (And.intro (R19.cell 1 0 rfl rfl) (And.intro (R19.cell 1 1 rfl rfl) (And.intro (R19.cell 1 2 rfl rfl) (R19.cell 1 3 rfl rfl)))))))
        clear hb19 R18 s18
        go_wp2_with fail
        refine hK.out _ _ (fun _ => s19) ?_
        clear hK K
        try simp only [Act.put, List.getElem_toArray, List.getElem_cons_succ, List.getElem_cons_zero, List.setIfInBounds_toArray, List.set_cons_zero, List.set_cons_succ]
        refine wpAnyL_take (i := 7) (v := ?_) rfl (by kernel_rfl) (by kernel_rfl) (by kernel_rfl) (by kernel_rfl) (by kernel_rfl) (fun _ _ _ h => h) (Or.inl ⟨by kernel_rfl, ?_⟩) s19 ?_
        rotate_left
        · rintro w' ⟨h1, h2, h3, h4, h5, h6, h7, h8⟩; go_simp; (try with_reducible rfl)
        try simp only [Act.put, List.getElem_toArray, List.getElem_cons_succ, List.getElem_cons_zero, List.setIfInBounds_toArray, List.set_cons_zero, List.set_cons_succ]
        refine wpAnyL_one (i := 8) (by kernel_rfl) rfl (fun K hK => ?_)
        go_simp
        refine hK.out _ _ (fun _ => s19) ?_
        clear hK K
        try simp only [Act.put, List.getElem_toArray, List.getElem_cons_succ, List.getElem_cons_zero, List.setIfInBounds_toArray, List.set_cons_zero, List.set_cons_succ]
        refine wpAnyL_done (by kernel_rfl) ?_ _
        go_wp2_with fail
        go_ret
        exact ⟨rfl, R19.bel⟩
    · rcases (Hz.out ▸ qcmp_cases ra rc : z = -1 ∨ z = 0 ∨ z = 1) with rfl | rfl | rfl
      · exact absurd (qtri_hi HX.out Hy.out Hz.out (by decide) (by decide)) (by decide)
      · skip
        go_wp2_with fail
        have D16 := R15.drew
        have s16 := And.intro (D16.cell 2 0 rfl rfl) (And.intro (D16.cell 2 1 rfl rfl) (And.intro (D16.cell 2 2 rfl rfl) (And.intro (D16.cell 2 3 rfl rfl) (And.intro (D16.cell 1 0 rfl rfl) (And.intro (D16.cell 1 1 rfl rfl) (And.intro (D16.cell 1 2 rfl rfl) (D16.cell 1 3 rfl rfl)))))))
        refine wp_region_late [] (fun w' => w'.cell? ⟨w.heap.size, 0, none⟩ = some (.bool ba) ∧ w'.cell? ⟨w.heap.size, 1, none⟩ = some (.slice Aa na ca) ∧ w'.cell? ⟨w.heap.size, 2, none⟩ = some (.bool ba') ∧ w'.cell? ⟨w.heap.size, 3, none⟩ = some (.slice Aa' na' ca') ∧ w'.cell? ⟨w.heap.size + 1, 0, none⟩ = some (.bool bb) ∧ w'.cell? ⟨w.heap.size + 1, 1, none⟩ = some (.slice Ab nb cb) ∧ w'.cell? ⟨w.heap.size + 1, 2, none⟩ = some (.bool bb') ∧ w'.cell? ⟨w.heap.size + 1, 3, none⟩ = some (.slice Ab' nb' cb')) (by kernel_rfl) ?_
        refine wpAnyL_take (i := 0) (v := ?_) rfl (by kernel_rfl) (by kernel_rfl) (by kernel_rfl) (by kernel_rfl) (by kernel_rfl) (fun _ _ _ h => h) (Or.inl ⟨by kernel_rfl, ?_⟩) s16 ?_
        rotate_left
        · rintro w' ⟨h1, h2, h3, h4, h5, h6, h7, h8⟩; go_simp; (try with_reducible rfl)
        try simp only [Act.put, List.getElem_toArray, List.getElem_cons_succ, List.getElem_cons_zero, List.setIfInBounds_toArray, List.set_cons_zero, List.set_cons_succ]
        refine wpAnyL_take (i := 1) (v := ?_) rfl (by kernel_rfl) (by kernel_rfl) (by kernel_rfl) (by kernel_rfl) (by kernel_rfl) (fun _ _ _ h => h) (Or.inl ⟨by kernel_rfl, ?_⟩) s16 ?_
        rotate_left
        · rintro w' ⟨h1, h2, h3, h4, h5, h6, h7, h8⟩; go_simp; (try with_reducible rfl)
        try simp only [Act.put, List.getElem_toArray, List.getElem_cons_succ, List.getElem_cons_zero, List.setIfInBounds_toArray, List.set_cons_zero, List.set_cons_succ]
        refine wpAnyL_take (i := 2) (v := ?_) rfl (by kernel_rfl) (by kernel_rfl) (by kernel_rfl) (by kernel_rfl) (by kernel_rfl) (fun _ _ _ h => h) (Or.inl ⟨by kernel_rfl, ?_⟩) s16 ?_
        rotate_left
        · rintro w' ⟨h1, h2, h3, h4, h5, h6, h7, h8⟩; go_simp; (try with_reducible rfl)
        try simp only [Act.put, List.getElem_toArray, List.getElem_cons_succ, List.getElem_cons_zero, List.setIfInBounds_toArray, List.set_cons_zero, List.set_cons_succ]
        refine wpAnyL_take (i := 4) (v := ?_) rfl (by kernel_rfl) (by kernel_rfl) (by kernel_rfl) (by kernel_rfl) (by kernel_rfl) (fun _ _ _ h => h) (Or.inl ⟨by kernel_rfl, ?_⟩) s16 ?_
        rotate_left
        · rintro w' ⟨h1, h2, h3, h4, h5, h6, h7, h8⟩; go_simp; (try with_reducible rfl)
        try simp only [Act.put, List.getElem_toArray, List.getElem_cons_succ, List.getElem_cons_zero, List.setIfInBounds_toArray, List.set_cons_zero, List.set_cons_succ]
        refine wpAnyL_one (i := 3) (by kernel_rfl) rfl (fun K hK => ?_)
        go_simp
        refine (qplain (K := 4) (D16.z 13 rfl) (D16.z 12 rfl) (by decide) (by decide) (by decide) (by decide) Ha.out).mono ?_; rintro e w17 ⟨b_uan, A_uan, n_uan, b_uad, A_uad, n_uad, rfl, z_uan, z_uad, hb17⟩
        have R17 := (((D16.below hb17).add z_uan).add z_uad)
        have s17 := And.intro (R17.cell 2 0 rfl rfl) (And.intro (R17.cell 2 1 rfl rfl) (And.intro (R17.cell 2 2 rfl rfl) (And.intro (R17.cell 2 3 rfl rfl) (And.intro (R17.cell 1 0 rfl rfl) (And.intro (R17.cell 1 1 rfl rfl) (And.intro (R17.cell 1 2 rfl rfl) (R17.cell 1 3 rfl rfl)))))))
        clear z_uan z_uad hb17 D16 s16
        go_wp2_with fail
        refine hK.out _ _ (fun _ => s17) ?_
        clear hK K
        try simp only [Act.put, List.getElem_toArray, List.getElem_cons_succ, List.getElem_cons_zero, List.setIfInBounds_toArray, List.set_cons_zero, List.set_cons_succ]
        refine wpAnyL_one (i := 5) (by kernel_rfl) rfl (fun K hK => ?_)
        go_simp
        refine (qplain (K := 4) (R17.z 13 rfl) (R17.z 12 rfl) (by decide) (by decide) (by decide) (by decide) Hb.out).mono ?_; rintro e w18 ⟨b_ubn, A_ubn, n_ubn, b_ubd, A_ubd, n_ubd, rfl, z_ubn, z_ubd, hb18⟩
        have R18 := (((R17.below hb18).add z_ubn).add z_ubd)
        have s18 := And.intro (R18.cell 2 0 rfl rfl) (And.intro (R18.cell 2 1 rfl rfl) (And.intro (R18.cell 2 2 rfl rfl) (And.intro (R18.cell 2 3 rfl rfl) (And.intro (R18.cell 1 0 rfl rfl) (And.intro (R18.cell 1 1 rfl rfl) (And.intro (R18.cell 1 2 rfl rfl) (R18.cell 1 3 rfl rfl)))))))
        clear z_ubn z_ubd hb18 R17 s17
        go_wp2_with fail
        refine hK.out _ _ (fun _ => s18) ?_
        clear hK K
        try simp only [Act.put, List.getElem_toArray, List.getElem_cons_succ, List.getElem_cons_zero, List.setIfInBounds_toArray, List.set_cons_zero, List.set_cons_succ]
        refine wpAnyL_one (i := 6) (by kernel_rfl) rfl (fun K hK => ?_)
        go_simp
        refine (rqsame (R18.z 3 rfl) (R18.z 2 rfl) (R18.z 1 rfl) (R18.z 0 rfl) (by decide) (by decide) (by decide) (by decide) (qsame_dec ra rb (decide_eq_false (fun e => absurd (HX.out.symm.trans (qcmp_eq.2 e)) (by decide))))).mono ?_; rintro e w19 ⟨rfl, hb19⟩
        have R19 := (R18.below hb19)
        have s19 := And.intro (R19.cell 2 0 rfl rfl) (And.intro (R19.cell 2 1 rfl rfl) (And.intro (R19.cell 2 2 rfl rfl) (And.intro (R19.cell 2 3 rfl rfl) (And.intro (R19.cell 1 0 rfl rfl) (And.intro (R19.cell 1 1 rfl rfl) (And.intro (R19.cell 1 2 rfl rfl) (R19.cell 1 3 rfl rfl)))))))
        clear hb19 R18 s18
        go_wp2_with fail
        refine hK.out _ _ (fun _ => s19) ?_
        clear hK K
        try simp only [Act.put, List.getElem_toArray, List.getElem_cons_succ, List.getElem_cons_zero, List.setIfInBounds_toArray, List.set_cons_zero, List.set_cons_succ]
        refine wpAnyL_take (i := 7) (v := ?_) rfl (by kernel_rfl) (by kernel_rfl) (by kernel_rfl) (by kernel_rfl) (by kernel_rfl) (fun _ _ _ h => h) (Or.inl ⟨by kernel_rfl, ?_⟩) s19 ?_
        rotate_left
        · rintro w' ⟨h1, h2, h3, h4, h5, h6, h7, h8⟩; go_simp; (try with_reducible rfl)
        try simp only [Act.put, List.getElem_toArray, List.getElem_cons_succ, List.getElem_cons_zero, List.setIfInBounds_toArray, List.set_cons_zero, List.set_cons_succ]
        refine wpAnyL_one (i := 8) (by kernel_rfl) rfl (fun K hK => ?_)
        go_simp
        refine hK.out _ _ (fun _ => s19) ?_
        clear hK K
        try simp only [Act.put, List.getElem_toArray, List.getElem_cons_succ, List.getElem_cons_zero, List.setIfInBounds_toArray, List.set_cons_zero, List.set_cons_succ]
        refine wpAnyL_done (by kernel_rfl) ?_ _
        go_wp2_with fail
        go_ret
        exact ⟨rfl, R19.bel⟩
      · skip
        go_wp2_with fail
        have D16 := R15.drew
        have s16 := And.intro (D16.cell 2 0 rfl rfl) (And.intro (D16.cell 2 1 rfl rfl) (And.intro (D16.cell 2 2 rfl rfl) (And.intro (D16.cell 2 3 rfl rfl) (And.intro (D16.cell 1 0 rfl rfl) (And.intro (D16.cell 1 1 rfl rfl) (And.intro (D16.cell 1 2 rfl rfl) (D16.cell 1 3 rfl rfl)))))))
        refine wp_region_late [] (fun w' => w'.cell? ⟨w.heap.size, 0, none⟩ = some (.bool ba) ∧ w'.cell? ⟨w.heap.size, 1, none⟩ = some (.slice Aa na ca) ∧ w'.cell? ⟨w.heap.size, 2, none⟩ = some (.bool ba') ∧ w'.cell? ⟨w.heap.size, 3, none⟩ = some (.slice Aa' na' ca') ∧ w'.cell? ⟨w.heap.size + 1, 0, none⟩ = some (.bool bb) ∧ w'.cell? ⟨w.heap.size + 1, 1, none⟩ = some (.slice Ab nb cb) ∧ w'.cell? ⟨w.heap.size + 1, 2, none⟩ = some (.bool bb') ∧ w'.cell? ⟨w.heap.size + 1, 3, none⟩ = some (.slice Ab' nb' cb')) (by kernel_rfl) ?_
        refine wpAnyL_take (i := 0) (v := ?_) rfl (by kernel_rfl) (by kernel_rfl) (by kernel_rfl) (by kernel_rfl) (by kernel_rfl) (fun _ _ _ h => h) (Or.inl ⟨by kernel_rfl, ?_⟩) s16 ?_
        rotate_left
        · rintro w' ⟨h1, h2, h3, h4, h5, h6, h7, h8⟩; go_simp; (try with_reducible rfl)
        try simp only [Act.put, List.getElem_toArray, List.getElem_cons_succ, List.getElem_cons_zero, List.setIfInBounds_toArray, List.set_cons_zero, List.set_cons_succ]
        refine wpAnyL_take (i := 1) (v := ?_) rfl (by kernel_rfl) (by kernel_rfl) (by kernel_rfl) (by kernel_rfl) (by kernel_rfl) (fun _ _ _ h => h) (Or.inl ⟨by kernel_rfl, ?_⟩) s16 ?_
        rotate_left
        · rintro w' ⟨h1, h2, h3, h4, h5, h6, h7, h8⟩; go_simp; (try with_reducible rfl)
        try simp only [Act.put, List.getElem_toArray, List.getElem_cons_succ, List.getElem_cons_zero, List.setIfInBounds_toArray, List.set_cons_zero, List.set_cons_succ]
        refine wpAnyL_take (i := 2) (v := ?_) rfl (by kernel_rfl) (by kernel_rfl) (by kernel_rfl) (by kernel_rfl) (by kernel_rfl) (fun _ _ _ h => h) (Or.inl ⟨by kernel_rfl, ?_⟩) s16 ?_
        rotate_left
        · rintro w' ⟨h1, h2, h3, h4, h5, h6, h7, h8⟩; go_simp; (try with_reducible rfl)
        try simp only [Act.put, List.getElem_toArray, List.getElem_cons_succ, List.getElem_cons_zero, List.setIfInBounds_toArray, List.set_cons_zero, List.set_cons_succ]
        refine wpAnyL_take (i := 4) (v := ?_) rfl (by kernel_rfl) (by kernel_rfl) (by kernel_rfl) (by kernel_rfl) (by kernel_rfl) (fun _ _ _ h => h) (Or.inl ⟨by kernel_rfl, ?_⟩) s16 ?_
        rotate_left
        · rintro w' ⟨h1, h2, h3, h4, h5, h6, h7, h8⟩; go_simp; (try with_reducible rfl)
        try simp only [Act.put, List.getElem_toArray, List.getElem_cons_succ, List.getElem_cons_zero, List.setIfInBounds_toArray, List.set_cons_zero, List.set_cons_succ]
        refine wpAnyL_one (i := 3) (by kernel_rfl) rfl (fun K hK => ?_)
        go_simp
        refine (qplain (K := 4) (D16.z 13 rfl) (D16.z 12 rfl) (by decide) (by decide) (by decide) (by decide) Ha.out).mono ?_; rintro e w17 ⟨b_uan, A_uan, n_uan, b_uad, A_uad, n_uad, rfl, z_uan, z_uad, hb17⟩
        have R17 := (((D16.below hb17).add z_uan).add z_uad)
        have s17 := And.intro (R17.cell 2 0 rfl rfl) (And.intro (R17.cell 2 1 rfl rfl) (And.intro (R17.cell 2 2 rfl rfl) (And.intro (R17.cell 2 3 rfl rfl) (And.intro (R17.cell 1 0 rfl rfl) (And.intro (R17.cell 1 1 rfl rfl) (And.intro (R17.cell 1 2 rfl rfl) (R17.cell 1 3 rfl rfl)))))))
        clear z_uan z_uad hb17 D16 s16
        go_wp2_with fail
        refine hK.out _ _ (fun _ => s17) ?_
        clear hK K
        try simp only [Act.put, List.getElem_toArray, List.getElem_cons_succ, List.getElem_cons_zero, List.setIfInBounds_toArray, List.set_cons_zero, List.set_cons_succ]
        refine wpAnyL_one (i := 5) (by kernel_rfl) rfl (fun K hK => ?_)
        go_simp
        refine (qplain (K := 4) (R17.z 13 rfl) (R17.z 12 rfl) (by decide) (by decide) (by decide) (by decide) Hb.out).mono ?_; rintro e w18 ⟨b_ubn, A_ubn, n_ubn, b_ubd, A_ubd, n_ubd, rfl, z_ubn, z_ubd, hb18⟩
        have R18 := (((R17.below hb18).add z_ubn).add z_ubd)
        have s18 := And.intro (R18.cell 2 0 rfl rfl) (And.intro (R18.cell 2 1 rfl rfl) (And.intro (R18.cell 2 2 rfl rfl) (And.intro (R18.cell 2 3 rfl rfl) (And.intro (R18.cell 1 0 rfl rfl) (And.intro (R18.cell 1 1 rfl rfl) (And.intro (R18.cell 1 2 rfl rfl) (R18.cell 1 3 rfl rfl)))))))
        clear z_ubn z_ubd hb18 R17 s17
        go_wp2_with fail
        refine hK.out _ _ (fun _ => s18) ?_
        clear hK K
        try simp only [Act.put, List.getElem_toArray, List.getElem_cons_succ, List.getElem_cons_zero, List.setIfInBounds_toArray, List.set_cons_zero, List.set_cons_succ]
        refine wpAnyL_one (i := 6) (by kernel_rfl) rfl (fun K hK => ?_)
        go_simp
        refine (rqsame (R18.z 3 rfl) (R18.z 2 rfl) (R18.z 1 rfl) (R18.z 0 rfl) (by decide) (by decide) (by decide) (by decide) (qsame_dec ra rb (decide_eq_false (fun e => absurd (HX.out.symm.trans (qcmp_eq.2 e)) (by decide))))).mono ?_; rintro e w19 ⟨rfl, hb19⟩
        have R19 := (R18.below hb19)
        have s19 := And.intro (R19.cell 2 0 rfl rfl) (And.intro (R19.cell 2 1 rfl rfl) (And.intro (R19.cell 2 2 rfl rfl) (And.intro (R19.cell 2 3 rfl rfl) (And.intro (R19.cell 1 0 rfl rfl) (And.intro (R19.cell 1 1 rfl rfl) (And.intro (R19.cell 1 2 rfl rfl) (R19.cell 1 3 rfl rfl)))))))
        clear hb19 R18 s18
        go_wp2_with fail
        refine hK.out _ _ (fun _ => s19) ?_
        clear hK K
        try simp only [Act.put, List.getElem_toArray, List.getElem_cons_succ, List.getElem_cons_zero, List.setIfInBounds_toArray, List.set_cons_zero, List.set_cons_succ]
        refine wpAnyL_take (i := 7) (v := ?_) rfl (by kernel_rfl) (by kernel_rfl) (by kernel_rfl) (by kernel_rfl) (by kernel_rfl) (fun _ _ _ h => h) (Or.inl ⟨by kernel_rfl, ?_⟩) s19 ?_
        rotate_left
        · rintro w' ⟨h1, h2, h3, h4, h5, h6, h7, h8⟩; go_simp; (try with_reducible rfl)
        try simp only [Act.put, List.getElem_toArray, List.getElem_cons_succ, List.getElem_cons_zero, List.setIfInBounds_toArray, List.set_cons_zero, List.set_cons_succ]
        refine wpAnyL_one (i := 8) (by kernel_rfl) rfl (fun K hK => ?_)
        go_simp
        refine hK.out _ _ (fun _ => s19) ?_
        clear hK K
        try simp only [Act.put, List.getElem_toArray, List.getElem_cons_succ, List.getElem_cons_zero, List.setIfInBounds_toArray, List.set_cons_zero, List.set_cons_succ]
        refine wpAnyL_done (by kernel_rfl) ?_ _
        go_wp2_with fail
        go_ret
        exact ⟨rfl, R19.bel⟩
    · rcases (Hz.out ▸ qcmp_cases ra rc : z = -1 ∨ z = 0 ∨ z = 1) with rfl | rfl | rfl
      · exact absurd (qtri_hi HX.out Hy.out Hz.out (by decide) (by decide)) (by decide)
      · skip
        go_wp2_with fail
        have D16 := R15.drew
        have s16 := And.intro (D16.cell 2 0 rfl rfl) (And.intro (D16.cell 2 1 rfl rfl) (And.intro (D16.cell 2 2 rfl rfl) (And.intro (D16.cell 2 3 rfl rfl) (And.intro (D16.cell 1 0 rfl rfl) (And.intro (D16.cell 1 1 rfl rfl) (And.intro (D16.cell 1 2 rfl rfl) (D16.cell 1 3 rfl rfl)))))))
        refine wp_region_late [] (fun w' => w'.cell? ⟨w.heap.size, 0, none⟩ = some (.bool ba) ∧ w'.cell? ⟨w.heap.size, 1, none⟩ = some (.slice Aa na ca) ∧ w'.cell? ⟨w.heap.size, 2, none⟩ = some (.bool ba') ∧ w'.cell? ⟨w.heap.size, 3, none⟩ = some (.slice Aa' na' ca') ∧ w'.cell? ⟨w.heap.size + 1, 0, none⟩ = some (.bool bb) ∧ w'.cell? ⟨w.heap.size + 1, 1, none⟩ = some (.slice Ab nb cb) ∧ w'.cell? ⟨w.heap.size + 1, 2, none⟩ = some (.bool bb') ∧ w'.cell? ⟨w.heap.size + 1, 3, none⟩ = some (.slice Ab' nb' cb')) (by kernel_rfl) ?_
        refine wpAnyL_take (i := 0) (v := ?_) rfl (by kernel_rfl) (by kernel_rfl) (by kernel_rfl) (by kernel_rfl) (by kernel_rfl) (fun _ _ _ h => h) (Or.inl ⟨by kernel_rfl, ?_⟩) s16 ?_
        rotate_left
        · rintro w' ⟨h1, h2, h3, h4, h5, h6, h7, h8⟩; go_simp; (try with_reducible rfl)
        try simp only [Act.put, List.getElem_toArray, List.getElem_cons_succ, List.getElem_cons_zero, List.setIfInBounds_toArray, List.set_cons_zero, List.set_cons_succ]
        refine wpAnyL_take (i := 1) (v := ?_) rfl (by kernel_rfl) (by kernel_rfl) (by kernel_rfl) (by kernel_rfl) (by kernel_rfl) (fun _ _ _ h => h) (Or.inl ⟨by kernel_rfl, ?_⟩) s16 ?_
        rotate_left
        · rintro w' ⟨h1, h2, h3, h4, h5, h6, h7, h8⟩; go_simp; (try with_reducible rfl)
        try simp only [Act.put, List.getElem_toArray, List.getElem_cons_succ, List.getElem_cons_zero, List.setIfInBounds_toArray, List.set_cons_zero, List.set_cons_succ]
        refine wpAnyL_take (i := 2) (v := ?_) rfl (by kernel_rfl) (by kernel_rfl) (by kernel_rfl) (by kernel_rfl) (by kernel_rfl) (fun _ _ _ h => h) (Or.inl ⟨by kernel_rfl, ?_⟩) s16 ?_
        rotate_left
        · rintro w' ⟨h1, h2, h3, h4, h5, h6, h7, h8⟩; go_simp; (try with_reducible rfl)
        try simp only [Act.put, List.getElem_toArray, List.getElem_cons_succ, List.getElem_cons_zero, List.setIfInBounds_toArray, List.set_cons_zero, List.set_cons_succ]
        refine wpAnyL_take (i := 4) (v := ?_) rfl (by kernel_rfl) (by kernel_rfl) (by kernel_rfl) (by kernel_rfl) (by kernel_rfl) (fun _ _ _ h => h) (Or.inl ⟨by kernel_rfl, ?_⟩) s16 ?_
        rotate_left
        · rintro w' ⟨h1, h2, h3, h4, h5, h6, h7, h8⟩; go_simp; (try with_reducible rfl)
        try simp only [Act.put, List.getElem_toArray, List.getElem_cons_succ, List.getElem_cons_zero, List.setIfInBounds_toArray, List.set_cons_zero, List.set_cons_succ]
        refine wpAnyL_one (i := 3) (by kernel_rfl) rfl (fun K hK => ?_)
        go_simp
        refine (qplain (K := 4) (D16.z 13 rfl) (D16.z 12 rfl) (by decide) (by decide) (by decide) (by decide) Ha.out).mono ?_; rintro e w17 ⟨b_uan, A_uan, n_uan, b_uad, A_uad, n_uad, rfl, z_uan, z_uad, hb17⟩
        have R17 := (((D16.below hb17).add z_uan).add z_uad)
        have s17 := And.intro (R17.cell 2 0 rfl rfl) (And.intro (R17.cell 2 1 rfl rfl) (And.intro (R17.cell 2 2 rfl rfl) (And.intro (R17.cell 2 3 rfl rfl) (And.intro (R17.cell 1 0 rfl rfl) (And.intro (R17.cell 1 1 rfl rfl) (And.intro (R17.cell 1 2 rfl rfl) (R17.cell 1 3 rfl rfl)))))))
        clear z_uan z_uad hb17 D16 s16
        go_wp2_with fail
        refine hK.out _ _ (fun _ => s17) ?_
        clear hK K
        try simp only [Act.put, List.getElem_toArray, List.getElem_cons_succ, List.getElem_cons_zero, List.setIfInBounds_toArray, List.set_cons_zero, List.set_cons_succ]
        refine wpAnyL_one (i := 5) (by kernel_rfl) rfl (fun K hK => ?_)
        go_simp
        refine (qplain (K := 4) (R17.z 13 rfl) (R17.z 12 rfl) (by decide) (by decide) (by decide) (by decide) Hb.out).mono ?_; rintro e w18 ⟨b_ubn, A_ubn, n_ubn, b_ubd, A_ubd, n_ubd, rfl, z_ubn, z_ubd, hb18⟩
        have R18 := (((R17.below hb18).add z_ubn).add z_ubd)
        have s18 := And.intro (R18.cell 2 0 rfl rfl) (And.intro (R18.cell 2 1 rfl rfl) (And.intro (R18.cell 2 2 rfl rfl) (And.intro (R18.cell 2 3 rfl rfl) (And.intro (R18.cell 1 0 rfl rfl) (And.intro (R18.cell 1 1 rfl rfl) (And.intro (R18.cell 1 2 rfl rfl) (R18.cell 1 3 rfl rfl)))))))
        clear z_ubn z_ubd hb18 R17 s17
        go_wp2_with fail
        refine hK.out _ _ (fun _ => s18) ?_
        clear hK K
        try simp only [Act.put, List.getElem_toArray, List.getElem_cons_succ, List.getElem_cons_zero, List.setIfInBounds_toArray, List.set_cons_zero, List.set_cons_succ]
        refine wpAnyL_one (i := 6) (by kernel_rfl) rfl (fun K hK => ?_)
        go_simp
        refine (rqsame (R18.z 3 rfl) (R18.z 2 rfl) (R18.z 1 rfl) (R18.z 0 rfl) (by decide) (by decide) (by decide) (by decide) (qsame_dec ra rb (decide_eq_false (fun e => absurd (HX.out.symm.trans (qcmp_eq.2 e)) (by decide))))).mono ?_; rintro e w19 ⟨rfl, hb19⟩
        have R19 := (R18.below hb19)
        have s19 := And.intro (R19.cell 2 0 rfl rfl) (And.intro (R19.cell 2 1 rfl rfl) (And.intro (R19.cell 2 2 rfl rfl) (And.intro (R19.cell 2 3 rfl rfl) (And.intro (R19.cell 1 0 rfl rfl) (And.intro (R19.cell 1 1 rfl rfl) (And.intro (R19.cell 1 2 rfl rfl) (R19.cell 1 3 rfl rfl)))))))
        clear hb19 R18 s18
        go_wp2_with fail
        refine hK.out _ _ (fun _ => s19) ?_
        clear hK K
        try simp only [Act.put, List.getElem_toArray, List.getElem_cons_succ, List.getElem_cons_zero, List.setIfInBounds_toArray, List.set_cons_zero, List.set_cons_succ]
        refine wpAnyL_take (i := 7) (v := ?_) rfl (by kernel_rfl) (by kernel_rfl) (by kernel_rfl) (by kernel_rfl) (by kernel_rfl) (fun _ _ _ h => h) (Or.inl ⟨by kernel_rfl, ?_⟩) s19 ?_
        rotate_left
        · rintro w' ⟨h1, h2, h3, h4, h5, h6, h7, h8⟩; go_simp; (try with_reducible rfl)
        try simp only [Act.put, List.getElem_toArray, List.getElem_cons_succ, List.getElem_cons_zero, List.setIfInBounds_toArray, List.set_cons_zero, List.set_cons_succ]
        refine wpAnyL_one (i := 8) (by kernel_rfl) rfl (fun K hK => ?_)
        go_simp
        refine hK.out _ _ (fun _ => s19) ?_
        clear hK K
        try simp only [Act.put, List.getElem_toArray, List.getElem_cons_succ, List.getElem_cons_zero, List.setIfInBounds_toArray, List.set_cons_zero, List.set_cons_succ]
        refine wpAnyL_done (by kernel_rfl) ?_ _
        go_wp2_with fail
        go_ret
        exact ⟨rfl, R19.bel⟩
      · skip
        go_wp2_with fail
        have D16 := R15.drew
        have s16 := And.intro (D16.cell 2 0 rfl rfl) (And.intro (D16.cell 2 1 rfl rfl) (And.intro (D16.cell 2 2 rfl rfl) (And.intro (D16.cell 2 3 rfl rfl) (And.intro (D16.cell 1 0 rfl rfl) (And.intro (D16.cell 1 1 rfl rfl) (And.intro (D16.cell 1 2 rfl rfl) (D16.cell 1 3 rfl rfl)))))))
        refine wp_region_late [] (fun w' => w'.cell? ⟨w.heap.size, 0, none⟩ = some (.bool ba) ∧ w'.cell? ⟨w.heap.size, 1, none⟩ = some (.slice Aa na ca) ∧ w'.cell? ⟨w.heap.size, 2, none⟩ = some (.bool ba') ∧ w'.cell? ⟨w.heap.size, 3, none⟩ = some (.slice Aa' na' ca') ∧ w'.cell? ⟨w.heap.size + 1, 0, none⟩ = some (.bool bb) ∧ w'.cell? ⟨w.heap.size + 1, 1, none⟩ = some (.slice Ab nb cb) ∧ w'.cell? ⟨w.heap.size + 1, 2, none⟩ = some (.bool bb') ∧ w'.cell? ⟨w.heap.size + 1, 3, none⟩ = some (.slice Ab' nb' cb')) (by kernel_rfl) ?_
        refine wpAnyL_take (i := 0) (v := ?_) rfl (by kernel_rfl) (by kernel_rfl) (by kernel_rfl) (by kernel_rfl) (by kernel_rfl) (fun _ _ _ h => h) (Or.inl ⟨by kernel_rfl, ?_⟩) s16 ?_
        rotate_left
        · rintro w' ⟨h1, h2, h3, h4, h5, h6, h7, h8⟩; go_simp; (try with_reducible rfl)
        try simp only [Act.put, List.getElem_toArray, List.getElem_cons_succ, List.getElem_cons_zero, List.setIfInBounds_toArray, List.set_cons_zero, List.set_cons_succ]
        refine wpAnyL_take (i := 1) (v := ?_) rfl (by kernel_rfl) (by kernel_rfl) (by kernel_rfl) (by kernel_rfl) (by kernel_rfl) (fun _ _ _ h => h) (Or.inl ⟨by kernel_rfl, ?_⟩) s16 ?_
        rotate_left
        · rintro w' ⟨h1, h2, h3, h4, h5, h6, h7, h8⟩; go_simp; (try with_reducible rfl)
        try simp only [Act.put, List.getElem_toArray, List.getElem_cons_succ, List.getElem_cons_zero, List.setIfInBounds_toArray, List.set_cons_zero, List.set_cons_succ]
        refine wpAnyL_take (i := 2) (v := ?_) rfl (by kernel_rfl) (by kernel_rfl) (by kernel_rfl) (by kernel_rfl) (by kernel_rfl) (fun _ _ _ h => h) (Or.inl ⟨by kernel_rfl, ?_⟩) s16 ?_
        rotate_left
        · rintro w' ⟨h1, h2, h3, h4, h5, h6, h7, h8⟩; go_simp; (try with_reducible rfl)
        try simp only [Act.put, List.getElem_toArray, List.getElem_cons_succ, List.getElem_cons_zero, List.setIfInBounds_toArray, List.set_cons_zero, List.set_cons_succ]
        refine wpAnyL_take (i := 4) (v := ?_) rfl (by kernel_rfl) (by kernel_rfl) (by kernel_rfl) (by kernel_rfl) (by kernel_rfl) (fun _ _ _ h => h) (Or.inl ⟨by kernel_rfl, ?_⟩) s16 ?_
        rotate_left
        · rintro w' ⟨h1, h2, h3, h4, h5, h6, h7, h8⟩; go_simp; (try with_reducible rfl)
        try simp only [Act.put, List.getElem_toArray, List.getElem_cons_succ, List.getElem_cons_zero, List.setIfInBounds_toArray, List.set_cons_zero, List.set_cons_succ]
        refine wpAnyL_one (i := 3) (by kernel_rfl) rfl (fun K hK => ?_)
        go_simp
        refine (qplain (K := 4) (D16.z 13 rfl) (D16.z 12 rfl) (by decide) (by decide) (by decide) (by decide) Ha.out).mono ?_; rintro e w17 ⟨b_uan, A_uan, n_uan, b_uad, A_uad, n_uad, rfl, z_uan, z_uad, hb17⟩
        have R17 := (((D16.below hb17).add z_uan).add z_uad)
        have s17 := And.intro (R17.cell 2 0 rfl rfl) (And.intro (R17.cell 2 1 rfl rfl) (And.intro (R17.cell 2 2 rfl rfl) (And.intro (R17.cell 2 3 rfl rfl) (And.intro (R17.cell 1 0 rfl rfl) (And.intro (R17.cell 1 1 rfl rfl) (And.intro (R17.cell 1 2 rfl rfl) (R17.cell 1 3 rfl rfl)))))))
        clear z_uan z_uad hb17 D16 s16
        go_wp2_with fail
        refine hK.out _ _ (fun _ => s17) ?_
        clear hK K
        try simp only [Act.put, List.getElem_toArray, List.getElem_cons_succ, List.getElem_cons_zero, List.setIfInBounds_toArray, List.set_cons_zero, List.set_cons_succ]
        refine wpAnyL_one (i := 5) (by kernel_rfl) rfl (fun K hK => ?_)
        go_simp
        refine (qplain (K := 4) (R17.z 13 rfl) (R17.z 12 rfl) (by decide) (by decide) (by decide) (by decide) Hb.out).mono ?_; rintro e w18 ⟨b_ubn, A_ubn, n_ubn, b_ubd, A_ubd, n_ubd, rfl, z_ubn, z_ubd, hb18⟩
        have R18 := (((R17.below hb18).add z_ubn).add z_ubd)
        have s18 := And.intro (R18.cell 2 0 rfl rfl) (And.intro (R18.cell 2 1 rfl rfl) (And.intro (R18.cell 2 2 rfl rfl) (And.intro (R18.cell 2 3 rfl rfl) (And.intro (R18.cell 1 0 rfl rfl) (And.intro (R18.cell 1 1 rfl rfl) (And.intro (R18.cell 1 2 rfl rfl) (R18.cell 1 3 rfl rfl)))))))
        clear z_ubn z_ubd hb18 R17 s17
        go_wp2_with fail
        refine hK.out _ _ (fun _ => s18) ?_
        clear hK K
        try simp only [Act.put, List.getElem_toArray, List.getElem_cons_succ, List.getElem_cons_zero, List.setIfInBounds_toArray, List.set_cons_zero, List.set_cons_succ]
        refine wpAnyL_one (i := 6) (by kernel_rfl) rfl (fun K hK => ?_)
        go_simp
        refine (rqsame (R18.z 3 rfl) (R18.z 2 rfl) (R18.z 1 rfl) (R18.z 0 rfl) (by decide) (by decide) (by decide) (by decide) (qsame_dec ra rb (decide_eq_false (fun e => absurd (HX.out.symm.trans (qcmp_eq.2 e)) (by decide))))).mono ?_; rintro e w19 ⟨rfl, hb19⟩
        have R19 := (R18.below hb19)
        have s19 := And.intro (R19.cell 2 0 rfl rfl) (And.intro (R19.cell 2 1 rfl rfl) (And.intro (R19.cell 2 2 rfl rfl) (And.intro (R19.cell 2 3 rfl rfl) (And.intro (R19.cell 1 0 rfl rfl) (And.intro (R19.cell 1 1 rfl rfl) (And.intro (R19.cell 1 2 rfl rfl) (R19.cell 1 3 rfl rfl)))))))
        clear hb19 R18 s18
        go_wp2_with fail
        refine hK.out _ _ (fun _ => s19) ?_
        clear hK K
        try simp only [Act.put, List.getElem_toArray, List.getElem_cons_succ, List.getElem_cons_zero, List.setIfInBounds_toArray, List.set_cons_zero, List.set_cons_succ]
        refine wpAnyL_take (i := 7) (v := ?_) rfl (by kernel_rfl) (by kernel_rfl) (by kernel_rfl) (by kernel_rfl) (by kernel_rfl) (fun _ _ _ h => h) (Or.inl ⟨by kernel_rfl, ?_⟩) s19 ?_
        rotate_left
        · rintro w' ⟨h1, h2, h3, h4, h5, h6, h7, h8⟩; go_simp; (try with_reducible rfl)
        try simp only [Act.put, List.getElem_toArray, List.getElem_cons_succ, List.getElem_cons_zero, List.setIfInBounds_toArray, List.set_cons_zero, List.set_cons_succ]
        refine wpAnyL_one (i := 8) (by kernel_rfl) rfl (fun K hK => ?_)
        go_simp
        refine hK.out _ _ (fun _ => s19) ?_
        clear hK K
        try simp only [Act.put, List.getElem_toArray, List.getElem_cons_succ, List.getElem_cons_zero, List.setIfInBounds_toArray, List.set_cons_zero, List.set_cons_succ]
        refine wpAnyL_done (by kernel_rfl) ?_ _
        go_wp2_with fail
        go_ret
        exact ⟨rfl, R19.bel⟩
end Go.Proofs.YticjhlbmdjijnaaGreatDoor
