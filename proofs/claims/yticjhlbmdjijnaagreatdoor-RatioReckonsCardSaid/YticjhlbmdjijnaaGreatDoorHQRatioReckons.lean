/- The law RatioReckons, walked. No condition but the reach of a slice. No condition but the reach of a slice. -/
import Derived.Test.YticjhlbmdjijnaaGreatDoorHQAwake
import Derived.Test.YticjhlbmdjijnaaGreatDoorHQFew
import Derived.Test.YticjhlbmdjijnaaGreatDoorHQT
import Derived.Test.YticjhlbmdjijnaaGreatDoorHQU
import Derived.Test.YticjhlbmdjijnaaGreatDoorHQMore
namespace Go.Proofs.YticjhlbmdjijnaaGreatDoor
set_option linter.unusedSimpArgs false
set_option linter.unusedVariables false
open Go.RowKit

set_option maxRecDepth 100000 in
set_option maxHeartbeats 25600000 in
theorem ratioReckons_any (ba : Bool) (Aa : Option Addr) (na ca : Nat) (la : List Nat) (ba' : Bool) (Aa' : Option Addr) (na' ca' : Nat) (la' : List Nat) (bb : Bool) (Ab : Option Addr) (nb cb : Nat) (lb : List Nat) (bb' : Bool) (Ab' : Option Addr) (nb' cb' : Nat) (lb' : List Nat) (w : World) (hra : Lim w Aa na ca la) (hna : na ≤ maxLen) (hra' : Lim w Aa' na' ca' la') (hna' : na' ≤ maxLen) (hrb : Lim w Ab nb cb lb) (hnb : nb ≤ maxLen) (hrb' : Lim w Ab' nb' cb' lb') (hnb' : nb' ≤ maxLen) : Calls Tryz.prog 7 #[.agg #[.bool ba, .slice Aa na ca, .bool ba', .slice Aa' na' ca'], .agg #[.bool bb, .slice Ab nb cb, .bool bb', .slice Ab' nb' cb']] w fun e w' => e = .returned (.bool true) ∧ Below w.heap.size w w' := by
  by_cases hfa : ¬ (na ≤ 4 ∧ na' ≤ 4)
  · have R0 := (((Env.nil_ w).alloc 26 #[.bool ba, .slice Aa na ca, .bool ba', .slice Aa' na' ca'] (g := w.heap.size) rfl rfl).alloc 26 #[.bool bb, .slice Ab nb cb, .bool bb', .slice Ab' nb' cb'] (g := w.heap.size + 1) (by simp) rfl)
    have HF := Lib.hid hfa
    clear hfa
    go_enter Tryz.func7, Tryz.ntmps7
    go_wp2_with fail
    refine (qawake_any _).mono ?_; rintro e w1 ⟨rfl, hb1⟩
    have R1 := (R0.below hb1)
    clear hb1 R0
    have k2a0 := R1.cell 1 0 rfl rfl
    have k2a1 := R1.cell 1 1 rfl rfl
    have k2a2 := R1.cell 1 2 rfl rfl
    have k2a3 := R1.cell 1 3 rfl rfl
    go_wp2_with fail
    clear k2a0 k2a1 k2a2 k2a3
    refine (qfew _ _ _ _ _ _ _ _ _).mono ?_; rintro e w2 ⟨rfl, hb2⟩
    have R2 := (R1.below hb2)
    clear hb2 R1
    rw [decide_eq_false HF.out]
    go_wp2_with fail
    go_ret
    exact ⟨rfl, R2.bel⟩
  have hfa := Lib.hid (Classical.not_not.1 hfa)
  by_cases hfb : ¬ (nb ≤ 4 ∧ nb' ≤ 4)
  · have R0 := (((Env.nil_ w).alloc 26 #[.bool ba, .slice Aa na ca, .bool ba', .slice Aa' na' ca'] (g := w.heap.size) rfl rfl).alloc 26 #[.bool bb, .slice Ab nb cb, .bool bb', .slice Ab' nb' cb'] (g := w.heap.size + 1) (by simp) rfl)
    have HF := Lib.hid hfb
    clear hfb
    go_enter Tryz.func7, Tryz.ntmps7
    go_wp2_with fail
    refine (qawake_any _).mono ?_; rintro e w1 ⟨rfl, hb1⟩
    have R1 := (R0.below hb1)
    clear hb1 R0
    have k2a0 := R1.cell 1 0 rfl rfl
    have k2a1 := R1.cell 1 1 rfl rfl
    have k2a2 := R1.cell 1 2 rfl rfl
    have k2a3 := R1.cell 1 3 rfl rfl
    go_wp2_with fail
    clear k2a0 k2a1 k2a2 k2a3
    refine (qfew _ _ _ _ _ _ _ _ _).mono ?_; rintro e w2 ⟨rfl, hb2⟩
    have R2 := (R1.below hb2)
    clear hb2 R1
    rw [decide_eq_true hfa.out]
    have k3b0 := R2.cell 0 0 rfl rfl
    have k3b1 := R2.cell 0 1 rfl rfl
    have k3b2 := R2.cell 0 2 rfl rfl
    have k3b3 := R2.cell 0 3 rfl rfl
    go_wp2_with fail
    clear k3b0 k3b1 k3b2 k3b3
    refine (qfew _ _ _ _ _ _ _ _ _).mono ?_; rintro e w3 ⟨rfl, hb3⟩
    have R3 := (R2.below hb3)
    clear hb3 R2
    rw [decide_eq_false HF.out]
    go_wp2_with fail
    go_ret
    exact ⟨rfl, R3.bel⟩
  have hfb := Lib.hid (Classical.not_not.1 hfb)
  have zan := ZIs.of_lim (b := ba) (k := 4) hra hfa.out.1
  have zad := ZIs.of_lim (b := ba') (k := 4) hra' hfa.out.2
  generalize zv ba (vl la) = xa at zan
  generalize zv ba' (vl la') = ya at zad
  obtain ⟨ra, hra_⟩ : ∃ r, qv xa ya = r := ⟨_, rfl⟩
  have Ha := Lib.hid hra_
  clear hra_ hra hra' hna hna'
  have zbn := ZIs.of_lim (b := bb) (k := 4) hrb hfb.out.1
  have zbd := ZIs.of_lim (b := bb') (k := 4) hrb' hfb.out.2
  generalize zv bb (vl lb) = xb at zbn
  generalize zv bb' (vl lb') = yb at zbd
  obtain ⟨rb, hrb_⟩ : ∃ r, qv xb yb = r := ⟨_, rfl⟩
  have Hb := Lib.hid hrb_
  clear hrb_ hrb hrb' hnb hnb'
  have R0 := (((((((Env.nil_ w).add zan).add zad).add zbn).add zbd).alloc 26 #[.bool ba, .slice Aa na ca, .bool ba', .slice Aa' na' ca'] (g := w.heap.size) rfl rfl).alloc 26 #[.bool bb, .slice Ab nb cb, .bool bb', .slice Ab' nb' cb'] (g := w.heap.size + 1) (by simp) rfl)
  clear zan zad zbn zbd
  obtain ⟨ma, hma⟩ : ∃ m, decide (0 < ya) = m := ⟨_, rfl⟩
  obtain ⟨z, hz⟩ : ∃ z, qcmp ra rb = z := ⟨_, rfl⟩
  obtain ⟨ok, hok⟩ : ∃ ok, decide (rb ≠ 0) = ok := ⟨_, rfl⟩
  obtain ⟨v, hv⟩ : ∃ v, (if rb = 0 then 0 else ra / rb) = v := ⟨_, rfl⟩
  have Hma := Lib.hid hma
  clear hma
  have Hz := Lib.hid hz
  clear hz
  have Hok := Lib.hid hok
  clear hok
  have Hv := Lib.hid hv
  clear hv
  go_enter Tryz.func7, Tryz.ntmps7
  go_wp2_with fail
  refine (qawake_any _).mono ?_; rintro e w1 ⟨rfl, hb1⟩
  have R1 := (R0.below hb1)
  clear hb1 R0
  have k2a0 := R1.cell 1 0 rfl rfl
  have k2a1 := R1.cell 1 1 rfl rfl
  have k2a2 := R1.cell 1 2 rfl rfl
  have k2a3 := R1.cell 1 3 rfl rfl
  go_wp2_with fail
  clear k2a0 k2a1 k2a2 k2a3
  refine (qfew _ _ _ _ _ _ _ _ _).mono ?_; rintro e w2 ⟨rfl, hb2⟩
  have R2 := (R1.below hb2)
  clear hb2 R1
  rw [decide_eq_true hfa.out]
  have k3b0 := R2.cell 0 0 rfl rfl
  have k3b1 := R2.cell 0 1 rfl rfl
  have k3b2 := R2.cell 0 2 rfl rfl
  have k3b3 := R2.cell 0 3 rfl rfl
  go_wp2_with fail
  clear k3b0 k3b1 k3b2 k3b3
  refine (qfew _ _ _ _ _ _ _ _ _).mono ?_; rintro e w3 ⟨rfl, hb3⟩
  have R3 := (R2.below hb3)
  clear hb3 R2
  rw [decide_eq_true hfb.out]
  have k4a0 := R3.cell 1 0 rfl rfl
  have k4a1 := R3.cell 1 1 rfl rfl
  have k4a2 := R3.cell 1 2 rfl rfl
  have k4a3 := R3.cell 1 3 rfl rfl
  have k4b0 := R3.cell 0 0 rfl rfl
  have k4b1 := R3.cell 0 1 rfl rfl
  have k4b2 := R3.cell 0 2 rfl rfl
  have k4b3 := R3.cell 0 3 rfl rfl
  go_wp2_with fail
  clear k4a0 k4a1 k4a2 k4a3 k4b0 k4b1 k4b2 k4b3
  refine (qdiv_b (k := 4) (R3.z 3 rfl) (R3.z 2 rfl) (R3.z 1 rfl) (R3.z 0 rfl) (by decide) (by decide) (by decide) (by decide) (by decide) (by decide) Ha.out Hb.out Hv.out Hok.out).mono ?_; rintro e w4 ⟨b_qn, A_qn, n_qn, b_qd, A_qd, n_qd, rfl, z_qn, z_qd, hb4⟩
  have R4 := ((((R3.below hb4).add z_qn).add z_qd).alloc 26 #[.bool b_qn, .slice A_qn n_qn n_qn, .bool b_qd, .slice A_qd n_qd n_qd] (g := w4.heap.size) rfl rfl)
  clear z_qn z_qd hb4 R3
  have k5a0 := R4.cell 2 0 rfl rfl
  have k5a1 := R4.cell 2 1 rfl rfl
  have k5a2 := R4.cell 2 2 rfl rfl
  have k5a3 := R4.cell 2 3 rfl rfl
  have k5b0 := R4.cell 1 0 rfl rfl
  have k5b1 := R4.cell 1 1 rfl rfl
  have k5b2 := R4.cell 1 2 rfl rfl
  have k5b3 := R4.cell 1 3 rfl rfl
  go_wp2_with fail
  clear k5a0 k5a1 k5a2 k5a3 k5b0 k5b1 k5b2 k5b3
  refine (rqdiv_b (k := 4) (R4.z 5 rfl) (R4.z 4 rfl) (R4.z 3 rfl) (R4.z 2 rfl) (by decide) (by decide) (by decide) (by decide) (by decide) (by decide) Ha.out Hb.out Hv.out Hok.out).mono ?_; rintro e w5 ⟨b_pn, A_pn, n_pn, c_pn, b_pd, A_pd, n_pd, c_pd, rfl, z_pn, z_pd, hb5⟩
  have R5 := ((((R4.below hb5).add z_pn).add z_pd).alloc 26 #[.bool b_pn, .slice A_pn n_pn c_pn, .bool b_pd, .slice A_pd n_pd c_pd] (g := w5.heap.size) rfl rfl)
  clear z_pn z_pd hb5 R4
  have em : (ma == ma) = true := by simp
  have ez : (z == z) = true := by simp
  have eo : (ok == ok) = true := by simp
  go_wp2_with fail
  have D6 := R5.drew
  have s6 := And.intro (D6.cell 3 0 rfl rfl) (And.intro (D6.cell 3 1 rfl rfl) (And.intro (D6.cell 3 2 rfl rfl) (And.intro (D6.cell 3 3 rfl rfl) (And.intro (D6.cell 2 0 rfl rfl) (And.intro (D6.cell 2 1 rfl rfl) (And.intro (D6.cell 2 2 rfl rfl) (And.intro (D6.cell 2 3 rfl rfl) (And.intro (D6.cell 1 0 rfl rfl) (And.intro (D6.cell 1 1 rfl rfl) (And.intro (D6.cell 1 2 rfl rfl) (And.intro (D6.cell 1 3 rfl rfl) (And.intro (D6.cell 0 0 rfl rfl) (And.intro (D6.cell 0 1 rfl rfl) (And.intro (D6.cell 0 2 rfl rfl) (D6.cell 0 3 rfl rfl)))))))))))))))
  refine wp_region_late [] (fun w' => w'.cell? ⟨w.heap.size, 0, none⟩ = some (.bool ba) ∧ w'.cell? ⟨w.heap.size, 1, none⟩ = some (.slice Aa na ca) ∧ w'.cell? ⟨w.heap.size, 2, none⟩ = some (.bool ba') ∧ w'.cell? ⟨w.heap.size, 3, none⟩ = some (.slice Aa' na' ca') ∧ w'.cell? ⟨w.heap.size + 1, 0, none⟩ = some (.bool bb) ∧ w'.cell? ⟨w.heap.size + 1, 1, none⟩ = some (.slice Ab nb cb) ∧ w'.cell? ⟨w.heap.size + 1, 2, none⟩ = some (.bool bb') ∧ w'.cell? ⟨w.heap.size + 1, 3, none⟩ = some (.slice Ab' nb' cb') ∧ w'.cell? ⟨w4.heap.size, 0, none⟩ = some (.bool b_qn) ∧ w'.cell? ⟨w4.heap.size, 1, none⟩ = some (.slice A_qn n_qn n_qn) ∧ w'.cell? ⟨w4.heap.size, 2, none⟩ = some (.bool b_qd) ∧ w'.cell? ⟨w4.heap.size, 3, none⟩ = some (.slice A_qd n_qd n_qd) ∧ w'.cell? ⟨w5.heap.size, 0, none⟩ = some (.bool b_pn) ∧ w'.cell? ⟨w5.heap.size, 1, none⟩ = some (.slice A_pn n_pn c_pn) ∧ w'.cell? ⟨w5.heap.size, 2, none⟩ = some (.bool b_pd) ∧ w'.cell? ⟨w5.heap.size, 3, none⟩ = some (.slice A_pd n_pd c_pd)) (by kernel_rfl) ?_
  refine wpAnyL_take (i := 0) (v := ?_) rfl (by kernel_rfl) (by kernel_rfl) (by kernel_rfl) (by kernel_rfl) (by kernel_rfl) (fun _ _ _ h => h) (Or.inl ⟨by kernel_rfl, ?_⟩) s6 ?_
  rotate_left
  · rintro w' ⟨h1, h2, h3, h4, h5, h6, h7, h8, h9, h10, h11, h12, h13, h14, h15, h16⟩; go_simp; (try with_reducible rfl)
  try simp only [Act.put, List.getElem_toArray, List.getElem_cons_succ, List.getElem_cons_zero, List.setIfInBounds_toArray, List.set_cons_zero, List.set_cons_succ]
  refine wpAnyL_take (i := 2) (v := ?_) rfl (by kernel_rfl) (by kernel_rfl) (by kernel_rfl) (by kernel_rfl) (by kernel_rfl) (fun _ _ _ h => h) (Or.inl ⟨by kernel_rfl, ?_⟩) s6 ?_
  rotate_left
  · rintro w' ⟨h1, h2, h3, h4, h5, h6, h7, h8, h9, h10, h11, h12, h13, h14, h15, h16⟩; go_simp; (try with_reducible rfl)
  try simp only [Act.put, List.getElem_toArray, List.getElem_cons_succ, List.getElem_cons_zero, List.setIfInBounds_toArray, List.set_cons_zero, List.set_cons_succ]
  refine wpAnyL_one (i := 1) (by kernel_rfl) rfl (fun K hK => ?_)
  go_simp
  refine (qmay_z (D6.z 7 rfl) (D6.z 6 rfl) (by decide) Hma.out).mono ?_; rintro e w7 ⟨rfl, hb7⟩
  have R7 := (D6.below hb7)
  have s7 := And.intro (R7.cell 3 0 rfl rfl) (And.intro (R7.cell 3 1 rfl rfl) (And.intro (R7.cell 3 2 rfl rfl) (And.intro (R7.cell 3 3 rfl rfl) (And.intro (R7.cell 2 0 rfl rfl) (And.intro (R7.cell 2 1 rfl rfl) (And.intro (R7.cell 2 2 rfl rfl) (And.intro (R7.cell 2 3 rfl rfl) (And.intro (R7.cell 1 0 rfl rfl) (And.intro (R7.cell 1 1 rfl rfl) (And.intro (R7.cell 1 2 rfl rfl) (And.intro (R7.cell 1 3 rfl rfl) (And.intro (R7.cell 0 0 rfl rfl) (And.intro (R7.cell 0 1 rfl rfl) (And.intro (R7.cell 0 2 rfl rfl) (R7.cell 0 3 rfl rfl)))))))))))))))
  clear hb7 D6 s6
  go_wp2_with fail
  refine hK.out _ _ (fun _ => s7) ?_
  clear hK K
  try simp only [Act.put, List.getElem_toArray, List.getElem_cons_succ, List.getElem_cons_zero, List.setIfInBounds_toArray, List.set_cons_zero, List.set_cons_succ]
  refine wpAnyL_one (i := 3) (by kernel_rfl) rfl (fun K hK => ?_)
  go_simp
  refine (rqmay (R7.z 7 rfl) (R7.z 6 rfl) (by decide) Hma.out).mono ?_; rintro e w8 ⟨rfl, hb8⟩
  have R8 := (R7.below hb8)
  have s8 := And.intro (R8.cell 3 0 rfl rfl) (And.intro (R8.cell 3 1 rfl rfl) (And.intro (R8.cell 3 2 rfl rfl) (And.intro (R8.cell 3 3 rfl rfl) (And.intro (R8.cell 2 0 rfl rfl) (And.intro (R8.cell 2 1 rfl rfl) (And.intro (R8.cell 2 2 rfl rfl) (And.intro (R8.cell 2 3 rfl rfl) (And.intro (R8.cell 1 0 rfl rfl) (And.intro (R8.cell 1 1 rfl rfl) (And.intro (R8.cell 1 2 rfl rfl) (And.intro (R8.cell 1 3 rfl rfl) (And.intro (R8.cell 0 0 rfl rfl) (And.intro (R8.cell 0 1 rfl rfl) (And.intro (R8.cell 0 2 rfl rfl) (R8.cell 0 3 rfl rfl)))))))))))))))
  clear hb8 R7 s7
  go_wp2_with fail
  refine hK.out _ _ (fun _ => s8) ?_
  clear hK K
  try simp only [Act.put, List.getElem_toArray, List.getElem_cons_succ, List.getElem_cons_zero, List.setIfInBounds_toArray, List.set_cons_zero, List.set_cons_succ]
  refine wpAnyL_take (i := 4) (v := ?_) rfl (by kernel_rfl) (by kernel_rfl) (by kernel_rfl) (by kernel_rfl) (by kernel_rfl) (fun _ _ _ h => h) (Or.inl ⟨by kernel_rfl, ?_⟩) s8 ?_
  rotate_left
  · rintro w' ⟨h1, h2, h3, h4, h5, h6, h7, h8, h9, h10, h11, h12, h13, h14, h15, h16⟩; go_simp; (try with_reducible rfl)
  try simp only [Act.put, List.getElem_toArray, List.getElem_cons_succ, List.getElem_cons_zero, List.setIfInBounds_toArray, List.set_cons_zero, List.set_cons_succ]
  refine wpAnyL_take (i := 5) (v := ?_) rfl (by kernel_rfl) (by kernel_rfl) (by kernel_rfl) (by kernel_rfl) (by kernel_rfl) (fun _ _ _ h => h) (Or.inl ⟨by kernel_rfl, ?_⟩) s8 ?_
  rotate_left
  · rintro w' ⟨h1, h2, h3, h4, h5, h6, h7, h8, h9, h10, h11, h12, h13, h14, h15, h16⟩; go_simp; (try with_reducible rfl)
  try simp only [Act.put, List.getElem_toArray, List.getElem_cons_succ, List.getElem_cons_zero, List.setIfInBounds_toArray, List.set_cons_zero, List.set_cons_succ]
  refine wpAnyL_take (i := 6) (v := ?_) rfl (by kernel_rfl) (by kernel_rfl) (by kernel_rfl) (by kernel_rfl) (by kernel_rfl) (fun _ _ _ h => h) (Or.inl ⟨by kernel_rfl, ?_⟩) s8 ?_
  rotate_left
  · rintro w' ⟨h1, h2, h3, h4, h5, h6, h7, h8, h9, h10, h11, h12, h13, h14, h15, h16⟩; go_simp; (try with_reducible rfl)
  try simp only [Act.put, List.getElem_toArray, List.getElem_cons_succ, List.getElem_cons_zero, List.setIfInBounds_toArray, List.set_cons_zero, List.set_cons_succ]
  refine wpAnyL_take (i := 8) (v := ?_) rfl (by kernel_rfl) (by kernel_rfl) (by kernel_rfl) (by kernel_rfl) (by kernel_rfl) (fun _ _ _ h => h) (Or.inl ⟨by kernel_rfl, ?_⟩) s8 ?_
  rotate_left
  · rintro w' ⟨h1, h2, h3, h4, h5, h6, h7, h8, h9, h10, h11, h12, h13, h14, h15, h16⟩; go_simp; (try with_reducible rfl)
  try simp only [Act.put, List.getElem_toArray, List.getElem_cons_succ, List.getElem_cons_zero, List.setIfInBounds_toArray, List.set_cons_zero, List.set_cons_succ]
  refine wpAnyL_one (i := 7) (by kernel_rfl) rfl (fun K hK => ?_)
  go_simp
  refine (qplain (K := 4) (R8.z 7 rfl) (R8.z 6 rfl) (by decide) (by decide) (by decide) (by decide) Ha.out).mono ?_; rintro e w9 ⟨b_pln, A_pln, n_pln, b_pld, A_pld, n_pld, rfl, z_pln, z_pld, hb9⟩
  have R9 := (((R8.below hb9).add z_pln).add z_pld)
  have s9 := And.intro (R9.cell 3 0 rfl rfl) (And.intro (R9.cell 3 1 rfl rfl) (And.intro (R9.cell 3 2 rfl rfl) (And.intro (R9.cell 3 3 rfl rfl) (And.intro (R9.cell 2 0 rfl rfl) (And.intro (R9.cell 2 1 rfl rfl) (And.intro (R9.cell 2 2 rfl rfl) (And.intro (R9.cell 2 3 rfl rfl) (And.intro (R9.cell 1 0 rfl rfl) (And.intro (R9.cell 1 1 rfl rfl) (And.intro (R9.cell 1 2 rfl rfl) (And.intro (R9.cell 1 3 rfl rfl) (And.intro (R9.cell 0 0 rfl rfl) (And.intro (R9.cell 0 1 rfl rfl) (And.intro (R9.cell 0 2 rfl rfl) (R9.cell 0 3 rfl rfl)))))))))))))))
  clear z_pln z_pld hb9 R8 s8
  go_wp2_with fail
  refine hK.out _ _ (fun _ => s9) ?_
  clear hK K
  try simp only [Act.put, List.getElem_toArray, List.getElem_cons_succ, List.getElem_cons_zero, List.setIfInBounds_toArray, List.set_cons_zero, List.set_cons_succ]
  refine wpAnyL_one (i := 9) (by kernel_rfl) rfl (fun K hK => ?_)
  go_simp
  refine (rqplain (K := 4) (R9.z 9 rfl) (R9.z 8 rfl) (by decide) (by decide) (by decide) (by decide) Ha.out).mono ?_; rintro e w10 ⟨b_pmn, A_pmn, n_pmn, c_pmn, b_pmd, A_pmd, n_pmd, c_pmd, rfl, z_pmn, z_pmd, hb10⟩
  have R10 := (((R9.below hb10).add z_pmn).add z_pmd)
  have s10 := And.intro (R10.cell 3 0 rfl rfl) (And.intro (R10.cell 3 1 rfl rfl) (And.intro (R10.cell 3 2 rfl rfl) (And.intro (R10.cell 3 3 rfl rfl) (And.intro (R10.cell 2 0 rfl rfl) (And.intro (R10.cell 2 1 rfl rfl) (And.intro (R10.cell 2 2 rfl rfl) (And.intro (R10.cell 2 3 rfl rfl) (And.intro (R10.cell 1 0 rfl rfl) (And.intro (R10.cell 1 1 rfl rfl) (And.intro (R10.cell 1 2 rfl rfl) (And.intro (R10.cell 1 3 rfl rfl) (And.intro (R10.cell 0 0 rfl rfl) (And.intro (R10.cell 0 1 rfl rfl) (And.intro (R10.cell 0 2 rfl rfl) (R10.cell 0 3 rfl rfl)))))))))))))))
  clear z_pmn z_pmd hb10 R9 s9
  go_wp2_with fail
  refine hK.out _ _ (fun _ => s10) ?_
  clear hK K
  try simp only [Act.put, List.getElem_toArray, List.getElem_cons_succ, List.getElem_cons_zero, List.setIfInBounds_toArray, List.set_cons_zero, List.set_cons_succ]
  refine wpAnyL_one (i := 10) (by kernel_rfl) rfl (fun K hK => ?_)
  go_simp
  refine (rqsame (R10.z 3 rfl) (R10.z 2 rfl) (R10.z 1 rfl) (R10.z 0 rfl) (by decide) (by decide) (by decide) (by decide) (qsame_eq rfl)).mono ?_; rintro e w11 ⟨rfl, hb11⟩
  have R11 := (R10.below hb11)
  have s11 := And.intro (R11.cell 3 0 rfl rfl) (And.intro (R11.cell 3 1 rfl rfl) (And.intro (R11.cell 3 2 rfl rfl) (And.intro (R11.cell 3 3 rfl rfl) (And.intro (R11.cell 2 0 rfl rfl) (And.intro (R11.cell 2 1 rfl rfl) (And.intro (R11.cell 2 2 rfl rfl) (And.intro (R11.cell 2 3 rfl rfl) (And.intro (R11.cell 1 0 rfl rfl) (And.intro (R11.cell 1 1 rfl rfl) (And.intro (R11.cell 1 2 rfl rfl) (And.intro (R11.cell 1 3 rfl rfl) (And.intro (R11.cell 0 0 rfl rfl) (And.intro (R11.cell 0 1 rfl rfl) (And.intro (R11.cell 0 2 rfl rfl) (R11.cell 0 3 rfl rfl)))))))))))))))
  clear hb11 R10 s10
  go_wp2_with fail
  refine hK.out _ _ (fun _ => s11) ?_
  clear hK K
  try simp only [Act.put, List.getElem_toArray, List.getElem_cons_succ, List.getElem_cons_zero, List.setIfInBounds_toArray, List.set_cons_zero, List.set_cons_succ]
  refine wpAnyL_take (i := 11) (v := ?_) rfl (by kernel_rfl) (by kernel_rfl) (by kernel_rfl) (by kernel_rfl) (by kernel_rfl) (fun _ _ _ h => h) (Or.inl ⟨by kernel_rfl, ?_⟩) s11 ?_
  rotate_left
  · rintro w' ⟨h1, h2, h3, h4, h5, h6, h7, h8, h9, h10, h11, h12, h13, h14, h15, h16⟩; go_simp; (try with_reducible rfl)
  try simp only [Act.put, List.getElem_toArray, List.getElem_cons_succ, List.getElem_cons_zero, List.setIfInBounds_toArray, List.set_cons_zero, List.set_cons_succ]
  refine wpAnyL_take (i := 12) (v := ?_) rfl (by kernel_rfl) (by kernel_rfl) (by kernel_rfl) (by kernel_rfl) (by kernel_rfl) (fun _ _ _ h => h) (Or.inl ⟨by kernel_rfl, ?_⟩) s11 ?_
  rotate_left
  · rintro w' ⟨h1, h2, h3, h4, h5, h6, h7, h8, h9, h10, h11, h12, h13, h14, h15, h16⟩; go_simp; (try with_reducible rfl)
  try simp only [Act.put, List.getElem_toArray, List.getElem_cons_succ, List.getElem_cons_zero, List.setIfInBounds_toArray, List.set_cons_zero, List.set_cons_succ]
  refine wpAnyL_take (i := 13) (v := ?_) rfl (by kernel_rfl) (by kernel_rfl) (by kernel_rfl) (by kernel_rfl) (by kernel_rfl) (fun _ _ _ h => h) (Or.inl ⟨by kernel_rfl, ?_⟩) s11 ?_
  rotate_left
  · rintro w' ⟨h1, h2, h3, h4, h5, h6, h7, h8, h9, h10, h11, h12, h13, h14, h15, h16⟩; go_simp; (try with_reducible rfl)
  try simp only [Act.put, List.getElem_toArray, List.getElem_cons_succ, List.getElem_cons_zero, List.setIfInBounds_toArray, List.set_cons_zero, List.set_cons_succ]
  refine wpAnyL_take (i := 14) (v := ?_) rfl (by kernel_rfl) (by kernel_rfl) (by kernel_rfl) (by kernel_rfl) (by kernel_rfl) (fun _ _ _ h => h) (Or.inl ⟨by kernel_rfl, ?_⟩) s11 ?_
  rotate_left
  · rintro w' ⟨h1, h2, h3, h4, h5, h6, h7, h8, h9, h10, h11, h12, h13, h14, h15, h16⟩; go_simp; (try with_reducible rfl)
  try simp only [Act.put, List.getElem_toArray, List.getElem_cons_succ, List.getElem_cons_zero, List.setIfInBounds_toArray, List.set_cons_zero, List.set_cons_succ]
  refine wpAnyL_take (i := 16) (v := ?_) rfl (by kernel_rfl) (by kernel_rfl) (by kernel_rfl) (by kernel_rfl) (by kernel_rfl) (fun _ _ _ h => h) (Or.inl ⟨by kernel_rfl, ?_⟩) s11 ?_
  rotate_left
  · rintro w' ⟨h1, h2, h3, h4, h5, h6, h7, h8, h9, h10, h11, h12, h13, h14, h15, h16⟩; go_simp; (try with_reducible rfl)
  try simp only [Act.put, List.getElem_toArray, List.getElem_cons_succ, List.getElem_cons_zero, List.setIfInBounds_toArray, List.set_cons_zero, List.set_cons_succ]
  refine wpAnyL_take (i := 17) (v := ?_) rfl (by kernel_rfl) (by kernel_rfl) (by kernel_rfl) (by kernel_rfl) (by kernel_rfl) (fun _ _ _ h => h) (Or.inl ⟨by kernel_rfl, ?_⟩) s11 ?_
  rotate_left
  · rintro w' ⟨h1, h2, h3, h4, h5, h6, h7, h8, h9, h10, h11, h12, h13, h14, h15, h16⟩; go_simp; (try with_reducible rfl)
  try simp only [Act.put, List.getElem_toArray, List.getElem_cons_succ, List.getElem_cons_zero, List.setIfInBounds_toArray, List.set_cons_zero, List.set_cons_succ]
  refine wpAnyL_one (i := 15) (by kernel_rfl) rfl (fun K hK => ?_)
  go_simp
  refine (qcmp_ (k := 4) (R11.z 11 rfl) (R11.z 10 rfl) (R11.z 9 rfl) (R11.z 8 rfl) (by decide) (by decide) (by decide) (by decide) (by decide) (by decide) Ha.out Hb.out Hz.out).mono ?_; rintro e w12 ⟨rfl, hb12⟩
  have R12 := (R11.below hb12)
  have s12 := And.intro (R12.cell 3 0 rfl rfl) (And.intro (R12.cell 3 1 rfl rfl) (And.intro (R12.cell 3 2 rfl rfl) (And.intro (R12.cell 3 3 rfl rfl) (And.intro (R12.cell 2 0 rfl rfl) (And.intro (R12.cell 2 1 rfl rfl) (And.intro (R12.cell 2 2 rfl rfl) (And.intro (R12.cell 2 3 rfl rfl) (And.intro (R12.cell 1 0 rfl rfl) (And.intro (R12.cell 1 1 rfl rfl) (And.intro (R12.cell 1 2 rfl rfl) (And.intro (R12.cell 1 3 rfl rfl) (And.intro (R12.cell 0 0 rfl rfl) (And.intro (R12.cell 0 1 rfl rfl) (And.intro (R12.cell 0 2 rfl rfl) (R12.cell 0 3 rfl rfl)))))))))))))))
  clear hb12 R11 s11
  go_wp2_with fail
  refine hK.out _ _ (fun _ => s12) ?_
  clear hK K
  try simp only [Act.put, List.getElem_toArray, List.getElem_cons_succ, List.getElem_cons_zero, List.setIfInBounds_toArray, List.set_cons_zero, List.set_cons_succ]
  refine wpAnyL_one (i := 18) (by kernel_rfl) rfl (fun K hK => ?_)
  go_simp
  refine (rqcmp (k := 4) (R12.z 11 rfl) (R12.z 10 rfl) (R12.z 9 rfl) (R12.z 8 rfl) (by decide) (by decide) (by decide) (by decide) (by decide) (by decide) Ha.out Hb.out Hz.out).mono ?_; rintro e w13 ⟨rfl, hb13⟩
  have R13 := (R12.below hb13)
  have s13 := And.intro (R13.cell 3 0 rfl rfl) (And.intro (R13.cell 3 1 rfl rfl) (And.intro (R13.cell 3 2 rfl rfl) (And.intro (R13.cell 3 3 rfl rfl) (And.intro (R13.cell 2 0 rfl rfl) (And.intro (R13.cell 2 1 rfl rfl) (And.intro (R13.cell 2 2 rfl rfl) (And.intro (R13.cell 2 3 rfl rfl) (And.intro (R13.cell 1 0 rfl rfl) (And.intro (R13.cell 1 1 rfl rfl) (And.intro (R13.cell 1 2 rfl rfl) (And.intro (R13.cell 1 3 rfl rfl) (And.intro (R13.cell 0 0 rfl rfl) (And.intro (R13.cell 0 1 rfl rfl) (And.intro (R13.cell 0 2 rfl rfl) (R13.cell 0 3 rfl rfl)))))))))))))))
  clear hb13 R12 s12
  go_wp2_with fail
  refine hK.out _ _ (fun _ => s13) ?_
  clear hK K
  try simp only [Act.put, List.getElem_toArray, List.getElem_cons_succ, List.getElem_cons_zero, List.setIfInBounds_toArray, List.set_cons_zero, List.set_cons_succ]
  refine wpAnyL_take (i := 19) (v := ?_) rfl (by kernel_rfl) (by kernel_rfl) (by kernel_rfl) (by kernel_rfl) (by kernel_rfl) (fun _ _ _ h => h) (Or.inl ⟨by kernel_rfl, ?_⟩) s13 ?_
  rotate_left
  · rintro w' ⟨h1, h2, h3, h4, h5, h6, h7, h8, h9, h10, h11, h12, h13, h14, h15, h16⟩; go_simp; (try with_reducible rfl)
  try simp only [Act.put, List.getElem_toArray, List.getElem_cons_succ, List.getElem_cons_zero, List.setIfInBounds_toArray, List.set_cons_zero, List.set_cons_succ]
  refine wpAnyL_take (i := 20) (v := ?_) rfl (by kernel_rfl) (by kernel_rfl) (by kernel_rfl) (by kernel_rfl) (by kernel_rfl) (fun _ _ _ h => h) (Or.inl ⟨by kernel_rfl, ?_⟩) s13 ?_
  rotate_left
  · rintro w' ⟨h1, h2, h3, h4, h5, h6, h7, h8, h9, h10, h11, h12, h13, h14, h15, h16⟩; go_simp; (try with_reducible rfl)
  try simp only [Act.put, List.getElem_toArray, List.getElem_cons_succ, List.getElem_cons_zero, List.setIfInBounds_toArray, List.set_cons_zero, List.set_cons_succ]
  refine wpAnyL_take (i := 21) (v := ?_) rfl (by kernel_rfl) (by kernel_rfl) (by kernel_rfl) (by kernel_rfl) (by kernel_rfl) (fun _ _ _ h => h) (Or.inl ⟨by kernel_rfl, ?_⟩) s13 ?_
  rotate_left
  · rintro w' ⟨h1, h2, h3, h4, h5, h6, h7, h8, h9, h10, h11, h12, h13, h14, h15, h16⟩; go_simp; (try with_reducible rfl)
  try simp only [Act.put, List.getElem_toArray, List.getElem_cons_succ, List.getElem_cons_zero, List.setIfInBounds_toArray, List.set_cons_zero, List.set_cons_succ]
  refine wpAnyL_take (i := 22) (v := ?_) rfl (by kernel_rfl) (by kernel_rfl) (by kernel_rfl) (by kernel_rfl) (by kernel_rfl) (fun _ _ _ h => h) (Or.inl ⟨by kernel_rfl, ?_⟩) s13 ?_
  rotate_left
  · rintro w' ⟨h1, h2, h3, h4, h5, h6, h7, h8, h9, h10, h11, h12, h13, h14, h15, h16⟩; go_simp; (try with_reducible rfl)
  try simp only [Act.put, List.getElem_toArray, List.getElem_cons_succ, List.getElem_cons_zero, List.setIfInBounds_toArray, List.set_cons_zero, List.set_cons_succ]
  refine wpAnyL_take (i := 23) (v := ?_) rfl (by kernel_rfl) (by kernel_rfl) (by kernel_rfl) (by kernel_rfl) (by kernel_rfl) (fun _ _ _ h => h) (Or.inl ⟨by kernel_rfl, ?_⟩) s13 ?_
  rotate_left
  · rintro w' ⟨h1, h2, h3, h4, h5, h6, h7, h8, h9, h10, h11, h12, h13, h14, h15, h16⟩; go_simp; (try with_reducible rfl)
  try simp only [Act.put, List.getElem_toArray, List.getElem_cons_succ, List.getElem_cons_zero, List.setIfInBounds_toArray, List.set_cons_zero, List.set_cons_succ]
  refine wpAnyL_take (i := 25) (v := ?_) rfl (by kernel_rfl) (by kernel_rfl) (by kernel_rfl) (by kernel_rfl) (by kernel_rfl) (fun _ _ _ h => h) (Or.inl ⟨by kernel_rfl, ?_⟩) s13 ?_
  rotate_left
  · rintro w' ⟨h1, h2, h3, h4, h5, h6, h7, h8, h9, h10, h11, h12, h13, h14, h15, h16⟩; go_simp; (try with_reducible rfl)
  try simp only [Act.put, List.getElem_toArray, List.getElem_cons_succ, List.getElem_cons_zero, List.setIfInBounds_toArray, List.set_cons_zero, List.set_cons_succ]
  refine wpAnyL_take (i := 26) (v := ?_) rfl (by kernel_rfl) (by kernel_rfl) (by kernel_rfl) (by kernel_rfl) (by kernel_rfl) (fun _ _ _ h => h) (Or.inl ⟨by kernel_rfl, ?_⟩) s13 ?_
  rotate_left
  · rintro w' ⟨h1, h2, h3, h4, h5, h6, h7, h8, h9, h10, h11, h12, h13, h14, h15, h16⟩; go_simp; (try with_reducible rfl)
  try simp only [Act.put, List.getElem_toArray, List.getElem_cons_succ, List.getElem_cons_zero, List.setIfInBounds_toArray, List.set_cons_zero, List.set_cons_succ]
  refine wpAnyL_one (i := 24) (by kernel_rfl) rfl (fun K hK => ?_)
  go_simp
  refine (qadd (k := 4) (R13.z 11 rfl) (R13.z 10 rfl) (R13.z 9 rfl) (R13.z 8 rfl) (by decide) (by decide) (by decide) (by decide) (by decide) (by decide) Ha.out Hb.out).mono ?_; rintro e w14 ⟨b_s1n, A_s1n, n_s1n, b_s1d, A_s1d, n_s1d, rfl, z_s1n, z_s1d, hb14⟩
  have R14 := (((R13.below hb14).add z_s1n).add z_s1d)
  have s14 := And.intro (R14.cell 3 0 rfl rfl) (And.intro (R14.cell 3 1 rfl rfl) (And.intro (R14.cell 3 2 rfl rfl) (And.intro (R14.cell 3 3 rfl rfl) (And.intro (R14.cell 2 0 rfl rfl) (And.intro (R14.cell 2 1 rfl rfl) (And.intro (R14.cell 2 2 rfl rfl) (And.intro (R14.cell 2 3 rfl rfl) (And.intro (R14.cell 1 0 rfl rfl) (And.intro (R14.cell 1 1 rfl rfl) (And.intro (R14.cell 1 2 rfl rfl) (And.intro (R14.cell 1 3 rfl rfl) (And.intro (R14.cell 0 0 rfl rfl) (And.intro (R14.cell 0 1 rfl rfl) (And.intro (R14.cell 0 2 rfl rfl) (R14.cell 0 3 rfl rfl)))))))))))))))
  clear z_s1n z_s1d hb14 R13 s13
  go_wp2_with fail
  refine hK.out _ _ (fun _ => s14) ?_
  clear hK K
  try simp only [Act.put, List.getElem_toArray, List.getElem_cons_succ, List.getElem_cons_zero, List.setIfInBounds_toArray, List.set_cons_zero, List.set_cons_succ]
  refine wpAnyL_one (i := 27) (by kernel_rfl) rfl (fun K hK => ?_)
  go_simp
  refine (rqadd (k := 4) (R14.z 13 rfl) (R14.z 12 rfl) (R14.z 11 rfl) (R14.z 10 rfl) (by decide) (by decide) (by decide) (by decide) (by decide) (by decide) Ha.out Hb.out).mono ?_; rintro e w15 ⟨b_s2n, A_s2n, n_s2n, c_s2n, b_s2d, A_s2d, n_s2d, c_s2d, rfl, z_s2n, z_s2d, hb15⟩
  have R15 := (((R14.below hb15).add z_s2n).add z_s2d)
  have s15 := And.intro (R15.cell 3 0 rfl rfl) (And.intro (R15.cell 3 1 rfl rfl) (And.intro (R15.cell 3 2 rfl rfl) (And.intro (R15.cell 3 3 rfl rfl) (And.intro (R15.cell 2 0 rfl rfl) (And.intro (R15.cell 2 1 rfl rfl) (And.intro (R15.cell 2 2 rfl rfl) (And.intro (R15.cell 2 3 rfl rfl) (And.intro (R15.cell 1 0 rfl rfl) (And.intro (R15.cell 1 1 rfl rfl) (And.intro (R15.cell 1 2 rfl rfl) (And.intro (R15.cell 1 3 rfl rfl) (And.intro (R15.cell 0 0 rfl rfl) (And.intro (R15.cell 0 1 rfl rfl) (And.intro (R15.cell 0 2 rfl rfl) (R15.cell 0 3 rfl rfl)))))))))))))))
  clear z_s2n z_s2d hb15 R14 s14
  go_wp2_with fail
  refine hK.out _ _ (fun _ => s15) ?_
  clear hK K
  try simp only [Act.put, List.getElem_toArray, List.getElem_cons_succ, List.getElem_cons_zero, List.setIfInBounds_toArray, List.set_cons_zero, List.set_cons_succ]
  refine wpAnyL_one (i := 28) (by kernel_rfl) rfl (fun K hK => ?_)
  go_simp
  refine (rqsame (R15.z 3 rfl) (R15.z 2 rfl) (R15.z 1 rfl) (R15.z 0 rfl) (by decide) (by decide) (by decide) (by decide) (qsame_eq rfl)).mono ?_; rintro e w16 ⟨rfl, hb16⟩
  have R16 := (R15.below hb16)
  have s16 := And.intro (R16.cell 3 0 rfl rfl) (And.intro (R16.cell 3 1 rfl rfl) (And.intro (R16.cell 3 2 rfl rfl) (And.intro (R16.cell 3 3 rfl rfl) (And.intro (R16.cell 2 0 rfl rfl) (And.intro (R16.cell 2 1 rfl rfl) (And.intro (R16.cell 2 2 rfl rfl) (And.intro (R16.cell 2 3 rfl rfl) (And.intro (R16.cell 1 0 rfl rfl) (And.intro (R16.cell 1 1 rfl rfl) (And.intro (R16.cell 1 2 rfl rfl) (And.intro (R16.cell 1 3 rfl rfl) (And.intro (R16.cell 0 0 rfl rfl) (And.intro (R16.cell 0 1 rfl rfl) (And.intro (R16.cell 0 2 rfl rfl) (R16.cell 0 3 rfl rfl)))))))))))))))
  clear hb16 R15 s15
  go_wp2_with fail
  refine hK.out _ _ (fun _ => s16) ?_
  clear hK K
  try simp only [Act.put, List.getElem_toArray, List.getElem_cons_succ, List.getElem_cons_zero, List.setIfInBounds_toArray, List.set_cons_zero, List.set_cons_succ]
  refine wpAnyL_take (i := 29) (v := ?_) rfl (by kernel_rfl) (by kernel_rfl) (by kernel_rfl) (by kernel_rfl) (by kernel_rfl) (fun _ _ _ h => h) (Or.inl ⟨by kernel_rfl, ?_⟩) s16 ?_
  rotate_left
  · rintro w' ⟨h1, h2, h3, h4, h5, h6, h7, h8, h9, h10, h11, h12, h13, h14, h15, h16⟩; go_simp; (try with_reducible rfl)
  try simp only [Act.put, List.getElem_toArray, List.getElem_cons_succ, List.getElem_cons_zero, List.setIfInBounds_toArray, List.set_cons_zero, List.set_cons_succ]
  refine wpAnyL_take (i := 30) (v := ?_) rfl (by kernel_rfl) (by kernel_rfl) (by kernel_rfl) (by kernel_rfl) (by kernel_rfl) (fun _ _ _ h => h) (Or.inl ⟨by kernel_rfl, ?_⟩) s16 ?_
  rotate_left
  · rintro w' ⟨h1, h2, h3, h4, h5, h6, h7, h8, h9, h10, h11, h12, h13, h14, h15, h16⟩; go_simp; (try with_reducible rfl)
  try simp only [Act.put, List.getElem_toArray, List.getElem_cons_succ, List.getElem_cons_zero, List.setIfInBounds_toArray, List.set_cons_zero, List.set_cons_succ]
  refine wpAnyL_take (i := 31) (v := ?_) rfl (by kernel_rfl) (by kernel_rfl) (by kernel_rfl) (by kernel_rfl) (by kernel_rfl) (fun _ _ _ h => h) (Or.inl ⟨by kernel_rfl, ?_⟩) s16 ?_
  rotate_left
  · rintro w' ⟨h1, h2, h3, h4, h5, h6, h7, h8, h9, h10, h11, h12, h13, h14, h15, h16⟩; go_simp; (try with_reducible rfl)
  try simp only [Act.put, List.getElem_toArray, List.getElem_cons_succ, List.getElem_cons_zero, List.setIfInBounds_toArray, List.set_cons_zero, List.set_cons_succ]
  refine wpAnyL_take (i := 32) (v := ?_) rfl (by kernel_rfl) (by kernel_rfl) (by kernel_rfl) (by kernel_rfl) (by kernel_rfl) (fun _ _ _ h => h) (Or.inl ⟨by kernel_rfl, ?_⟩) s16 ?_
  rotate_left
  · rintro w' ⟨h1, h2, h3, h4, h5, h6, h7, h8, h9, h10, h11, h12, h13, h14, h15, h16⟩; go_simp; (try with_reducible rfl)
  try simp only [Act.put, List.getElem_toArray, List.getElem_cons_succ, List.getElem_cons_zero, List.setIfInBounds_toArray, List.set_cons_zero, List.set_cons_succ]
  refine wpAnyL_take (i := 34) (v := ?_) rfl (by kernel_rfl) (by kernel_rfl) (by kernel_rfl) (by kernel_rfl) (by kernel_rfl) (fun _ _ _ h => h) (Or.inl ⟨by kernel_rfl, ?_⟩) s16 ?_
  rotate_left
  · rintro w' ⟨h1, h2, h3, h4, h5, h6, h7, h8, h9, h10, h11, h12, h13, h14, h15, h16⟩; go_simp; (try with_reducible rfl)
  try simp only [Act.put, List.getElem_toArray, List.getElem_cons_succ, List.getElem_cons_zero, List.setIfInBounds_toArray, List.set_cons_zero, List.set_cons_succ]
  refine wpAnyL_take (i := 35) (v := ?_) rfl (by kernel_rfl) (by kernel_rfl) (by kernel_rfl) (by kernel_rfl) (by kernel_rfl) (fun _ _ _ h => h) (Or.inl ⟨by kernel_rfl, ?_⟩) s16 ?_
  rotate_left
  · rintro w' ⟨h1, h2, h3, h4, h5, h6, h7, h8, h9, h10, h11, h12, h13, h14, h15, h16⟩; go_simp; (try with_reducible rfl)
  try simp only [Act.put, List.getElem_toArray, List.getElem_cons_succ, List.getElem_cons_zero, List.setIfInBounds_toArray, List.set_cons_zero, List.set_cons_succ]
  refine wpAnyL_one (i := 33) (by kernel_rfl) rfl (fun K hK => ?_)
  go_simp
  refine (qsub (k := 4) (R16.z 15 rfl) (R16.z 14 rfl) (R16.z 13 rfl) (R16.z 12 rfl) (by decide) (by decide) (by decide) (by decide) (by decide) (by decide) Ha.out Hb.out).mono ?_; rintro e w17 ⟨b_d1n, A_d1n, n_d1n, b_d1d, A_d1d, n_d1d, rfl, z_d1n, z_d1d, hb17⟩
  have R17 := (((R16.below hb17).add z_d1n).add z_d1d)
  have s17 := And.intro (R17.cell 3 0 rfl rfl) (And.intro (R17.cell 3 1 rfl rfl) (And.intro (R17.cell 3 2 rfl rfl) (And.intro (R17.cell 3 3 rfl rfl) (And.intro (R17.cell 2 0 rfl rfl) (And.intro (R17.cell 2 1 rfl rfl) (And.intro (R17.cell 2 2 rfl rfl) (And.intro (R17.cell 2 3 rfl rfl) (And.intro (R17.cell 1 0 rfl rfl) (And.intro (R17.cell 1 1 rfl rfl) (And.intro (R17.cell 1 2 rfl rfl) (And.intro (R17.cell 1 3 rfl rfl) (And.intro (R17.cell 0 0 rfl rfl) (And.intro (R17.cell 0 1 rfl rfl) (And.intro (R17.cell 0 2 rfl rfl) (R17.cell 0 3 rfl rfl)))))))))))))))
  clear z_d1n z_d1d hb17 R16 s16
  go_wp2_with fail
  refine hK.out _ _ (fun _ => s17) ?_
  clear hK K
  try simp only [Act.put, List.getElem_toArray, List.getElem_cons_succ, List.getElem_cons_zero, List.setIfInBounds_toArray, List.set_cons_zero, List.set_cons_succ]
  refine wpAnyL_one (i := 36) (by kernel_rfl) rfl (fun K hK => ?_)
  go_simp
  refine (rqsub (k := 4) (R17.z 17 rfl) (R17.z 16 rfl) (R17.z 15 rfl) (R17.z 14 rfl) (by decide) (by decide) (by decide) (by decide) (by decide) (by decide) Ha.out Hb.out).mono ?_; rintro e w18 ⟨b_d2n, A_d2n, n_d2n, c_d2n, b_d2d, A_d2d, n_d2d, c_d2d, rfl, z_d2n, z_d2d, hb18⟩
  have R18 := (((R17.below hb18).add z_d2n).add z_d2d)
  have s18 := And.intro (R18.cell 3 0 rfl rfl) (And.intro (R18.cell 3 1 rfl rfl) (And.intro (R18.cell 3 2 rfl rfl) (And.intro (R18.cell 3 3 rfl rfl) (And.intro (R18.cell 2 0 rfl rfl) (And.intro (R18.cell 2 1 rfl rfl) (And.intro (R18.cell 2 2 rfl rfl) (And.intro (R18.cell 2 3 rfl rfl) (And.intro (R18.cell 1 0 rfl rfl) (And.intro (R18.cell 1 1 rfl rfl) (And.intro (R18.cell 1 2 rfl rfl) (And.intro (R18.cell 1 3 rfl rfl) (And.intro (R18.cell 0 0 rfl rfl) (And.intro (R18.cell 0 1 rfl rfl) (And.intro (R18.cell 0 2 rfl rfl) (R18.cell 0 3 rfl rfl)))))))))))))))
  clear z_d2n z_d2d hb18 R17 s17
  go_wp2_with fail
  refine hK.out _ _ (fun _ => s18) ?_
  clear hK K
  try simp only [Act.put, List.getElem_toArray, List.getElem_cons_succ, List.getElem_cons_zero, List.setIfInBounds_toArray, List.set_cons_zero, List.set_cons_succ]
  refine wpAnyL_one (i := 37) (by kernel_rfl) rfl (fun K hK => ?_)
  go_simp
  refine (rqsame (R18.z 3 rfl) (R18.z 2 rfl) (R18.z 1 rfl) (R18.z 0 rfl) (by decide) (by decide) (by decide) (by decide) (qsame_eq rfl)).mono ?_; rintro e w19 ⟨rfl, hb19⟩
  have R19 := (R18.below hb19)
  have s19 := And.intro (R19.cell 3 0 rfl rfl) (And.intro (R19.cell 3 1 rfl rfl) (And.intro (R19.cell 3 2 rfl rfl) (And.intro (R19.cell 3 3 rfl rfl) (And.intro (R19.cell 2 0 rfl rfl) (And.intro (R19.cell 2 1 rfl rfl) (And.intro (R19.cell 2 2 rfl rfl) (And.intro (R19.cell 2 3 rfl rfl) (And.intro (R19.cell 1 0 rfl rfl) (And.intro (R19.cell 1 1 rfl rfl) (And.intro (R19.cell 1 2 rfl rfl) (And.intro (R19.cell 1 3 rfl rfl) (And.intro (R19.cell 0 0 rfl rfl) (And.intro (R19.cell 0 1 rfl rfl) (And.intro (R19.cell 0 2 rfl rfl) (R19.cell 0 3 rfl rfl)))))))))))))))
  clear hb19 R18 s18
  go_wp2_with fail
  refine hK.out _ _ (fun _ => s19) ?_
  clear hK K
  try simp only [Act.put, List.getElem_toArray, List.getElem_cons_succ, List.getElem_cons_zero, List.setIfInBounds_toArray, List.set_cons_zero, List.set_cons_succ]
  refine wpAnyL_take (i := 38) (v := ?_) rfl (by kernel_rfl) (by kernel_rfl) (by kernel_rfl) (by kernel_rfl) (by kernel_rfl) (fun _ _ _ h => h) (Or.inl ⟨by kernel_rfl, ?_⟩) s19 ?_
  rotate_left
  · rintro w' ⟨h1, h2, h3, h4, h5, h6, h7, h8, h9, h10, h11, h12, h13, h14, h15, h16⟩; go_simp; (try with_reducible rfl)
  try simp only [Act.put, List.getElem_toArray, List.getElem_cons_succ, List.getElem_cons_zero, List.setIfInBounds_toArray, List.set_cons_zero, List.set_cons_succ]
  refine wpAnyL_take (i := 39) (v := ?_) rfl (by kernel_rfl) (by kernel_rfl) (by kernel_rfl) (by kernel_rfl) (by kernel_rfl) (fun _ _ _ h => h) (Or.inl ⟨by kernel_rfl, ?_⟩) s19 ?_
  rotate_left
  · rintro w' ⟨h1, h2, h3, h4, h5, h6, h7, h8, h9, h10, h11, h12, h13, h14, h15, h16⟩; go_simp; (try with_reducible rfl)
  try simp only [Act.put, List.getElem_toArray, List.getElem_cons_succ, List.getElem_cons_zero, List.setIfInBounds_toArray, List.set_cons_zero, List.set_cons_succ]
  refine wpAnyL_take (i := 40) (v := ?_) rfl (by kernel_rfl) (by kernel_rfl) (by kernel_rfl) (by kernel_rfl) (by kernel_rfl) (fun _ _ _ h => h) (Or.inl ⟨by kernel_rfl, ?_⟩) s19 ?_
  rotate_left
  · rintro w' ⟨h1, h2, h3, h4, h5, h6, h7, h8, h9, h10, h11, h12, h13, h14, h15, h16⟩; go_simp; (try with_reducible rfl)
  try simp only [Act.put, List.getElem_toArray, List.getElem_cons_succ, List.getElem_cons_zero, List.setIfInBounds_toArray, List.set_cons_zero, List.set_cons_succ]
  refine wpAnyL_take (i := 41) (v := ?_) rfl (by kernel_rfl) (by kernel_rfl) (by kernel_rfl) (by kernel_rfl) (by kernel_rfl) (fun _ _ _ h => h) (Or.inl ⟨by kernel_rfl, ?_⟩) s19 ?_
  rotate_left
  · rintro w' ⟨h1, h2, h3, h4, h5, h6, h7, h8, h9, h10, h11, h12, h13, h14, h15, h16⟩; go_simp; (try with_reducible rfl)
  try simp only [Act.put, List.getElem_toArray, List.getElem_cons_succ, List.getElem_cons_zero, List.setIfInBounds_toArray, List.set_cons_zero, List.set_cons_succ]
  refine wpAnyL_take (i := 43) (v := ?_) rfl (by kernel_rfl) (by kernel_rfl) (by kernel_rfl) (by kernel_rfl) (by kernel_rfl) (fun _ _ _ h => h) (Or.inl ⟨by kernel_rfl, ?_⟩) s19 ?_
  rotate_left
  · rintro w' ⟨h1, h2, h3, h4, h5, h6, h7, h8, h9, h10, h11, h12, h13, h14, h15, h16⟩; go_simp; (try with_reducible rfl)
  try simp only [Act.put, List.getElem_toArray, List.getElem_cons_succ, List.getElem_cons_zero, List.setIfInBounds_toArray, List.set_cons_zero, List.set_cons_succ]
  refine wpAnyL_take (i := 44) (v := ?_) rfl (by kernel_rfl) (by kernel_rfl) (by kernel_rfl) (by kernel_rfl) (by kernel_rfl) (fun _ _ _ h => h) (Or.inl ⟨by kernel_rfl, ?_⟩) s19 ?_
  rotate_left
  · rintro w' ⟨h1, h2, h3, h4, h5, h6, h7, h8, h9, h10, h11, h12, h13, h14, h15, h16⟩; go_simp; (try with_reducible rfl)
  try simp only [Act.put, List.getElem_toArray, List.getElem_cons_succ, List.getElem_cons_zero, List.setIfInBounds_toArray, List.set_cons_zero, List.set_cons_succ]
  refine wpAnyL_one (i := 42) (by kernel_rfl) rfl (fun K hK => ?_)
  go_simp
  refine (qmul (k := 4) (R19.z 19 rfl) (R19.z 18 rfl) (R19.z 17 rfl) (R19.z 16 rfl) (by decide) (by decide) (by decide) (by decide) (by decide) (by decide) Ha.out Hb.out).mono ?_; rintro e w20 ⟨b_m1n, A_m1n, n_m1n, b_m1d, A_m1d, n_m1d, rfl, z_m1n, z_m1d, hb20⟩
  have R20 := (((R19.below hb20).add z_m1n).add z_m1d)
  have s20 := And.intro (R20.cell 3 0 rfl rfl) (And.intro (R20.cell 3 1 rfl rfl) (And.intro (R20.cell 3 2 rfl rfl) (And.intro (R20.cell 3 3 rfl rfl) (And.intro (R20.cell 2 0 rfl rfl) (And.intro (R20.cell 2 1 rfl rfl) (And.intro (R20.cell 2 2 rfl rfl) (And.intro (R20.cell 2 3 rfl rfl) (And.intro (R20.cell 1 0 rfl rfl) (And.intro (R20.cell 1 1 rfl rfl) (And.intro (R20.cell 1 2 rfl rfl) (And.intro (R20.cell 1 3 rfl rfl) (And.intro (R20.cell 0 0 rfl rfl) (And.intro (R20.cell 0 1 rfl rfl) (And.intro (R20.cell 0 2 rfl rfl) (R20.cell 0 3 rfl rfl)))))))))))))))
  clear z_m1n z_m1d hb20 R19 s19
  go_wp2_with fail
  refine hK.out _ _ (fun _ => s20) ?_
  clear hK K
  try simp only [Act.put, List.getElem_toArray, List.getElem_cons_succ, List.getElem_cons_zero, List.setIfInBounds_toArray, List.set_cons_zero, List.set_cons_succ]
  refine wpAnyL_one (i := 45) (by kernel_rfl) rfl (fun K hK => ?_)
  go_simp
  refine (rqmul (k := 4) (R20.z 21 rfl) (R20.z 20 rfl) (R20.z 19 rfl) (R20.z 18 rfl) (by decide) (by decide) (by decide) (by decide) (by decide) (by decide) Ha.out Hb.out).mono ?_; rintro e w21 ⟨b_m2n, A_m2n, n_m2n, c_m2n, b_m2d, A_m2d, n_m2d, c_m2d, rfl, z_m2n, z_m2d, hb21⟩
  have R21 := (((R20.below hb21).add z_m2n).add z_m2d)
  have s21 := And.intro (R21.cell 3 0 rfl rfl) (And.intro (R21.cell 3 1 rfl rfl) (And.intro (R21.cell 3 2 rfl rfl) (And.intro (R21.cell 3 3 rfl rfl) (And.intro (R21.cell 2 0 rfl rfl) (And.intro (R21.cell 2 1 rfl rfl) (And.intro (R21.cell 2 2 rfl rfl) (And.intro (R21.cell 2 3 rfl rfl) (And.intro (R21.cell 1 0 rfl rfl) (And.intro (R21.cell 1 1 rfl rfl) (And.intro (R21.cell 1 2 rfl rfl) (And.intro (R21.cell 1 3 rfl rfl) (And.intro (R21.cell 0 0 rfl rfl) (And.intro (R21.cell 0 1 rfl rfl) (And.intro (R21.cell 0 2 rfl rfl) (R21.cell 0 3 rfl rfl)))))))))))))))
  clear z_m2n z_m2d hb21 R20 s20
  go_wp2_with fail
  refine hK.out _ _ (fun _ => s21) ?_
  clear hK K
  try simp only [Act.put, List.getElem_toArray, List.getElem_cons_succ, List.getElem_cons_zero, List.setIfInBounds_toArray, List.set_cons_zero, List.set_cons_succ]
  refine wpAnyL_one (i := 46) (by kernel_rfl) rfl (fun K hK => ?_)
  go_simp
  refine (rqsame (R21.z 3 rfl) (R21.z 2 rfl) (R21.z 1 rfl) (R21.z 0 rfl) (by decide) (by decide) (by decide) (by decide) (qsame_eq rfl)).mono ?_; rintro e w22 ⟨rfl, hb22⟩
  have R22 := (R21.below hb22)
  have s22 := And.intro (R22.cell 3 0 rfl rfl) (And.intro (R22.cell 3 1 rfl rfl) (And.intro (R22.cell 3 2 rfl rfl) (And.intro (R22.cell 3 3 rfl rfl) (And.intro (R22.cell 2 0 rfl rfl) (And.intro (R22.cell 2 1 rfl rfl) (And.intro (R22.cell 2 2 rfl rfl) (And.intro (R22.cell 2 3 rfl rfl) (And.intro (R22.cell 1 0 rfl rfl) (And.intro (R22.cell 1 1 rfl rfl) (And.intro (R22.cell 1 2 rfl rfl) (And.intro (R22.cell 1 3 rfl rfl) (And.intro (R22.cell 0 0 rfl rfl) (And.intro (R22.cell 0 1 rfl rfl) (And.intro (R22.cell 0 2 rfl rfl) (R22.cell 0 3 rfl rfl)))))))))))))))
  clear hb22 R21 s21
  go_wp2_with fail
  refine hK.out _ _ (fun _ => s22) ?_
  clear hK K
  try simp only [Act.put, List.getElem_toArray, List.getElem_cons_succ, List.getElem_cons_zero, List.setIfInBounds_toArray, List.set_cons_zero, List.set_cons_succ]
  refine wpAnyL_take (i := 47) (v := ?_) rfl (by kernel_rfl) (by kernel_rfl) (by kernel_rfl) (by kernel_rfl) (by kernel_rfl) (fun _ _ _ h => h) (Or.inl ⟨by kernel_rfl, ?_⟩) s22 ?_
  rotate_left
  · rintro w' ⟨h1, h2, h3, h4, h5, h6, h7, h8, h9, h10, h11, h12, h13, h14, h15, h16⟩; go_simp; (try with_reducible rfl)
  try simp only [Act.put, List.getElem_toArray, List.getElem_cons_succ, List.getElem_cons_zero, List.setIfInBounds_toArray, List.set_cons_zero, List.set_cons_succ]
  refine wpAnyL_take (i := 48) (v := ?_) rfl (by kernel_rfl) (by kernel_rfl) (by kernel_rfl) (by kernel_rfl) (by kernel_rfl) (fun _ _ _ h => h) (Or.inl ⟨by kernel_rfl, ?_⟩) s22 ?_
  rotate_left
  · rintro w' ⟨h1, h2, h3, h4, h5, h6, h7, h8, h9, h10, h11, h12, h13, h14, h15, h16⟩; go_simp; (try with_reducible rfl)
  try simp only [Act.put, List.getElem_toArray, List.getElem_cons_succ, List.getElem_cons_zero, List.setIfInBounds_toArray, List.set_cons_zero, List.set_cons_succ]
  refine wpAnyL_take (i := 49) (v := ?_) rfl (by kernel_rfl) (by kernel_rfl) (by kernel_rfl) (by kernel_rfl) (by kernel_rfl) (fun _ _ _ h => h) (Or.inl ⟨by kernel_rfl, ?_⟩) s22 ?_
  rotate_left
  · rintro w' ⟨h1, h2, h3, h4, h5, h6, h7, h8, h9, h10, h11, h12, h13, h14, h15, h16⟩; go_simp; (try with_reducible rfl)
  try simp only [Act.put, List.getElem_toArray, List.getElem_cons_succ, List.getElem_cons_zero, List.setIfInBounds_toArray, List.set_cons_zero, List.set_cons_succ]
  refine wpAnyL_take (i := 50) (v := ?_) rfl (by kernel_rfl) (by kernel_rfl) (by kernel_rfl) (by kernel_rfl) (by kernel_rfl) (fun _ _ _ h => h) (Or.inl ⟨by kernel_rfl, ?_⟩) s22 ?_
  rotate_left
  · rintro w' ⟨h1, h2, h3, h4, h5, h6, h7, h8, h9, h10, h11, h12, h13, h14, h15, h16⟩; go_simp; (try with_reducible rfl)
  try simp only [Act.put, List.getElem_toArray, List.getElem_cons_succ, List.getElem_cons_zero, List.setIfInBounds_toArray, List.set_cons_zero, List.set_cons_succ]
  refine wpAnyL_one (i := 51) (by kernel_rfl) rfl (fun K hK => ?_)
  go_simp
  refine (rqsame (R22.z 19 rfl) (R22.z 18 rfl) (R22.z 17 rfl) (R22.z 16 rfl) (by decide) (by decide) (by decide) (by decide) (qsame_eq rfl)).mono ?_; rintro e w23 ⟨rfl, hb23⟩
  have R23 := (R22.below hb23)
  have s23 := And.intro (R23.cell 3 0 rfl rfl) (And.intro (R23.cell 3 1 rfl rfl) (And.intro (R23.cell 3 2 rfl rfl) (And.intro (R23.cell 3 3 rfl rfl) (And.intro (R23.cell 2 0 rfl rfl) (And.intro (R23.cell 2 1 rfl rfl) (And.intro (R23.cell 2 2 rfl rfl) (And.intro (R23.cell 2 3 rfl rfl) (And.intro (R23.cell 1 0 rfl rfl) (And.intro (R23.cell 1 1 rfl rfl) (And.intro (R23.cell 1 2 rfl rfl) (And.intro (R23.cell 1 3 rfl rfl) (And.intro (R23.cell 0 0 rfl rfl) (And.intro (R23.cell 0 1 rfl rfl) (And.intro (R23.cell 0 2 rfl rfl) (R23.cell 0 3 rfl rfl)))))))))))))))
  clear hb23 R22 s22
  go_wp2_with fail
  refine hK.out _ _ (fun _ => s23) ?_
  clear hK K
  try simp only [Act.put, List.getElem_toArray, List.getElem_cons_succ, List.getElem_cons_zero, List.setIfInBounds_toArray, List.set_cons_zero, List.set_cons_succ]
  refine wpAnyL_take (i := 52) (v := ?_) rfl (by kernel_rfl) (by kernel_rfl) (by kernel_rfl) (by kernel_rfl) (by kernel_rfl) (fun _ _ _ h => h) (Or.inl ⟨by kernel_rfl, ?_⟩) s23 ?_
  rotate_left
  · rintro w' ⟨h1, h2, h3, h4, h5, h6, h7, h8, h9, h10, h11, h12, h13, h14, h15, h16⟩; go_simp; (try with_reducible rfl)
  try simp only [Act.put, List.getElem_toArray, List.getElem_cons_succ, List.getElem_cons_zero, List.setIfInBounds_toArray, List.set_cons_zero, List.set_cons_succ]
  refine wpAnyL_take (i := 53) (v := ?_) rfl (by kernel_rfl) (by kernel_rfl) (by kernel_rfl) (by kernel_rfl) (by kernel_rfl) (fun _ _ _ h => h) (Or.inl ⟨by kernel_rfl, ?_⟩) s23 ?_
  rotate_left
  · rintro w' ⟨h1, h2, h3, h4, h5, h6, h7, h8, h9, h10, h11, h12, h13, h14, h15, h16⟩; go_simp; (try with_reducible rfl)
  try simp only [Act.put, List.getElem_toArray, List.getElem_cons_succ, List.getElem_cons_zero, List.setIfInBounds_toArray, List.set_cons_zero, List.set_cons_succ]
  refine wpAnyL_take (i := 54) (v := ?_) rfl (by kernel_rfl) (by kernel_rfl) (by kernel_rfl) (by kernel_rfl) (by kernel_rfl) (fun _ _ _ h => h) (Or.inl ⟨by kernel_rfl, ?_⟩) s23 ?_
  rotate_left
  · rintro w' ⟨h1, h2, h3, h4, h5, h6, h7, h8, h9, h10, h11, h12, h13, h14, h15, h16⟩; go_simp; (try with_reducible rfl)
  try simp only [Act.put, List.getElem_toArray, List.getElem_cons_succ, List.getElem_cons_zero, List.setIfInBounds_toArray, List.set_cons_zero, List.set_cons_succ]
  refine wpAnyL_take (i := 55) (v := ?_) rfl (by kernel_rfl) (by kernel_rfl) (by kernel_rfl) (by kernel_rfl) (by kernel_rfl) (fun _ _ _ h => h) (Or.inl ⟨by kernel_rfl, ?_⟩) s23 ?_
  rotate_left
  · rintro w' ⟨h1, h2, h3, h4, h5, h6, h7, h8, h9, h10, h11, h12, h13, h14, h15, h16⟩; go_simp; (try with_reducible rfl)
  try simp only [Act.put, List.getElem_toArray, List.getElem_cons_succ, List.getElem_cons_zero, List.setIfInBounds_toArray, List.set_cons_zero, List.set_cons_succ]
  refine wpAnyL_take (i := 56) (v := ?_) rfl (by kernel_rfl) (by kernel_rfl) (by kernel_rfl) (by kernel_rfl) (by kernel_rfl) (fun _ _ _ h => h) (Or.inl ⟨by kernel_rfl, ?_⟩) s23 ?_
  rotate_left
  · rintro w' ⟨h1, h2, h3, h4, h5, h6, h7, h8, h9, h10, h11, h12, h13, h14, h15, h16⟩; go_simp; (try with_reducible rfl)
  try simp only [Act.put, List.getElem_toArray, List.getElem_cons_succ, List.getElem_cons_zero, List.setIfInBounds_toArray, List.set_cons_zero, List.set_cons_succ]
  refine wpAnyL_take (i := 57) (v := ?_) rfl (by kernel_rfl) (by kernel_rfl) (by kernel_rfl) (by kernel_rfl) (by kernel_rfl) (fun _ _ _ h => h) (Or.inl ⟨by kernel_rfl, ?_⟩) s23 ?_
  rotate_left
  · rintro w' ⟨h1, h2, h3, h4, h5, h6, h7, h8, h9, h10, h11, h12, h13, h14, h15, h16⟩; go_simp; (try with_reducible rfl)
  try simp only [Act.put, List.getElem_toArray, List.getElem_cons_succ, List.getElem_cons_zero, List.setIfInBounds_toArray, List.set_cons_zero, List.set_cons_succ]
  refine wpAnyL_one (i := 58) (by kernel_rfl) rfl (fun K hK => ?_)
  go_simp
  refine hK.out _ _ (fun _ => s23) ?_
  clear hK K
  try simp only [Act.put, List.getElem_toArray, List.getElem_cons_succ, List.getElem_cons_zero, List.setIfInBounds_toArray, List.set_cons_zero, List.set_cons_succ]
  refine wpAnyL_done (by kernel_rfl) ?_ _
  go_wp2_with fail
  go_ret
  exact ⟨rfl, R23.bel⟩
end Go.Proofs.YticjhlbmdjijnaaGreatDoor
