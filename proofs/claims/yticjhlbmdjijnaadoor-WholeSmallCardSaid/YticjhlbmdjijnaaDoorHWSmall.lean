/- WholeSmall: every int64 as a whole number, and back; a number is its quotient times the divisor, and the rest. No condition. -/
import Derived.Test.YticjhlbmdjijnaaDoorGS
namespace Go.Proofs.YticjhlbmdjijnaaDoor
open Go.RowKit

theorem zmag_lt {w : World} {a b : Bool} {A B : Option Addr} {n c m d : Nat} {x y : Int} {i j : Nat} {p q : Bool} (ha : ZIs w a A n c x i p) (hb : ZIs w b B m d y j q) (hi : i ≤ 1048576) (hj : j ≤ 1048576) (h : x.natAbs < y.natAbs) :
    Calls Tryd.prog 16 #[.slice A n c, .slice B m d] w fun e w' => e = .returned (.int .i64 (-1)) ∧ Below w.heap.size w w' := by
  obtain ⟨l, hl, hv, _⟩ := ha.lim
  obtain ⟨k, hk, hv2, _⟩ := hb.lim
  have := ha.few
  have := hb.few
  refine (rCmp_any A n c l B m d k w hl hk (by omega) (by omega)).mono ?_
  rintro e w' ⟨rfl, hb⟩
  exact ⟨by rw [hv, hv2, Num.cmp_lt h], hb⟩
set_option maxRecDepth 100000 in
set_option maxHeartbeats 6400000 in
theorem wholeSmall_any (n : Int) (ba : Bool) (Aa : Option Addr) (na ca : Nat) (la : List Nat) (bb : Bool) (Ab : Option Addr) (nb cb : Nat) (lb : List Nat) (w : World) (hn : -9223372036854775808 ≤ n ∧ n ≤ 9223372036854775807) (hra : Lim w Aa na ca la) (hna : na ≤ maxLen) (hrb : Lim w Ab nb cb lb) (hnb : nb ≤ maxLen) :
    Calls Tryd.prog 3 #[.int .i64 n, .agg #[.bool ba, .slice Aa na ca], .agg #[.bool bb, .slice Ab nb cb]] w fun e w' => e = .returned (.bool true) ∧ Below w.heap.size w w' := by
  unfold maxLen at hna
  unfold maxLen at hnb
  by_cases ha : 14 < na
  · have R0 := (((((Env.nil_ w).add (ZIs.of_lim (b := ba) (k := na) hra (Nat.le_refl _))).add (ZIs.of_lim (b := bb) (k := nb) hrb (Nat.le_refl _))).alloc 24 #[.bool ba, .slice Aa na ca] (g := w.heap.size) rfl rfl).alloc 24 #[.bool bb, .slice Ab nb cb] (g := w.heap.size + 1) (by simp) rfl)
    go_enter Tryd.func3, Tryd.ntmps3
    go_wp2_with fail
    refine (wawake_any _).mono ?_
    rintro e w1 ⟨rfl, hb1⟩
    have R1 := (R0.below hb1)
    have k2a0 := R1.cell 1 0 rfl rfl
    have k2a1 := R1.cell 1 1 rfl rfl
    go_wp2_with fail
    clear k2a0 k2a1
    refine (zfew_no (by omega)).mono ?_
    rintro e w2 ⟨rfl, hb2⟩
    have R2 := (R1.below hb2)
    have ka0 := R2.cell 1 0 rfl rfl
    have ka1 := R2.cell 1 1 rfl rfl
    have kb0 := R2.cell 0 0 rfl rfl
    have kb1 := R2.cell 0 1 rfl rfl
    go_wp2_with fail
    go_ret
    exact ⟨rfl, R2.bel⟩
  by_cases hb : 14 < nb
  · have R0 := (((((Env.nil_ w).add (ZIs.of_lim (b := ba) (k := na) hra (Nat.le_refl _))).add (ZIs.of_lim (b := bb) (k := nb) hrb (Nat.le_refl _))).alloc 24 #[.bool ba, .slice Aa na ca] (g := w.heap.size) rfl rfl).alloc 24 #[.bool bb, .slice Ab nb cb] (g := w.heap.size + 1) (by simp) rfl)
    go_enter Tryd.func3, Tryd.ntmps3
    go_wp2_with fail
    refine (wawake_any _).mono ?_
    rintro e w1 ⟨rfl, hb1⟩
    have R1 := (R0.below hb1)
    have k2a0 := R1.cell 1 0 rfl rfl
    have k2a1 := R1.cell 1 1 rfl rfl
    go_wp2_with fail
    clear k2a0 k2a1
    refine (zfew_yes (by omega)).mono ?_
    rintro e w2 ⟨rfl, hb2⟩
    have R2 := (R1.below hb2)
    have k3b0 := R2.cell 0 0 rfl rfl
    have k3b1 := R2.cell 0 1 rfl rfl
    go_wp2_with fail
    clear k3b0 k3b1
    refine (zfew_no (by omega)).mono ?_
    rintro e w3 ⟨rfl, hb3⟩
    have R3 := (R2.below hb3)
    have ka0 := R3.cell 1 0 rfl rfl
    have ka1 := R3.cell 1 1 rfl rfl
    have kb0 := R3.cell 0 0 rfl rfl
    have kb1 := R3.cell 0 1 rfl rfl
    go_wp2_with fail
    go_ret
    exact ⟨rfl, R3.bel⟩
  have R0 := (((((Env.nil_ w).add (ZIs.of_lim (b := ba) (k := 14) hra (by omega))).add (ZIs.of_lim (b := bb) (k := 14) hrb (by omega))).alloc 24 #[.bool ba, .slice Aa na ca] (g := w.heap.size) rfl rfl).alloc 24 #[.bool bb, .slice Ab nb cb] (g := w.heap.size + 1) (by simp) rfl)
  obtain ⟨za, hza⟩ : ∃ z, zv ba (vl la) = z := ⟨_, rfl⟩
  rw [hza] at R0
  clear hza hra
  obtain ⟨zb, hzb⟩ : ∃ z, zv bb (vl lb) = z := ⟨_, rfl⟩
  rw [hzb] at R0
  clear hzb hrb
  go_enter Tryd.func3, Tryd.ntmps3
  go_wp2_with fail
  refine (wawake_any _).mono ?_
  rintro e w1 ⟨rfl, hb1⟩
  have R1 := (R0.below hb1)
  have k2a0 := R1.cell 1 0 rfl rfl
  have k2a1 := R1.cell 1 1 rfl rfl
  go_wp2_with fail
  clear k2a0 k2a1
  refine (zfew_yes (by omega)).mono ?_
  rintro e w2 ⟨rfl, hb2⟩
  have R2 := (R1.below hb2)
  have k3b0 := R2.cell 0 0 rfl rfl
  have k3b1 := R2.cell 0 1 rfl rfl
  go_wp2_with fail
  clear k3b0 k3b1
  refine (zfew_yes (by omega)).mono ?_
  rintro e w3 ⟨rfl, hb3⟩
  have R3 := (R2.below hb3)
  have hsn := zin_yes hn.1 hn.2
  have hsn2 := fun w0 => zof n w0 hn.1 hn.2
  have HSN := Lib.hid hsn
  clear hsn hn
  have k4a0 := R3.cell 1 0 rfl rfl
  have k4a1 := R3.cell 1 1 rfl rfl
  go_wp2_with fail
  clear k4a0 k4a1
  refine (zsmall (R3.z 1 rfl) (by decide)).mono ?_
  rintro e w4 ⟨rfl, hb4⟩
  have R4 := (R3.below hb4)
  have k5a0 := R4.cell 1 0 rfl rfl
  have k5a1 := R4.cell 1 1 rfl rfl
  go_wp2_with fail
  clear k5a0 k5a1
  refine (rzsmall (R4.z 1 rfl) (by decide)).mono ?_
  rintro e w5 ⟨rfl, hb5⟩
  have R5 := (R4.below hb5)
  go_wp2_with fail
  refine (hsn2 _).mono ?_
  rintro e w6 ⟨b_k, A_k, n_k, rfl, z_k, hb6⟩
  have R6 := ((R5.below hb6).add z_k)
  go_wp2_with fail
  refine (zsmall (R6.z 0 rfl) (by decide)).mono ?_
  rintro e w7 ⟨rfl, hb7⟩
  have R7 := (R6.below hb7)
  rw [HSN.out.1, HSN.out.2]
  by_cases hz0 : zb = 0
  · skip
    have k8a0 := R7.cell 1 0 rfl rfl
    have k8a1 := R7.cell 1 1 rfl rfl
    have k8b0 := R7.cell 0 0 rfl rfl
    have k8b1 := R7.cell 0 1 rfl rfl
    go_wp2_with fail
    clear k8a0 k8a1 k8b0 k8b1
    refine (zdiv_zero (R7.z 2 rfl) (R7.z 1 rfl) (by decide) (by decide) hz0).mono ?_
    rintro e w8 ⟨rfl, hb8⟩
    have R8 := (R7.below hb8)
    have RZq := (R8.add (ZIs.nil_ _ none 0 0)).alloc 24 #[.bool false, .slice none 0 0] (g := w8.heap.size) rfl rfl
    have RZr := (RZq.add (ZIs.nil_ _ none 0 0)).alloc 24 #[.bool false, .slice none 0 0] (g := w8.heap.size + 1) (by simp) rfl
    go_wp2_with fail
    refine (hsn2 _).mono ?_
    rintro e w9 ⟨b_t1, A_t1, n_t1, rfl, z_t1, hb9⟩
    have R9 := ((RZr.below hb9).add z_t1)
    go_wp2_with fail
    refine (ztext (R9.z 0 rfl) (by decide)).mono ?_
    rintro e w10 ⟨rfl, hb10⟩
    have R10 := (R9.below hb10)
    go_wp2_with fail
    refine (hsn2 _).mono ?_
    rintro e w11 ⟨b_t2, A_t2, n_t2, rfl, z_t2, hb11⟩
    have R11 := ((R10.below hb11).add z_t2)
    go_wp2_with fail
    refine (rztext (R11.z 0 rfl) (by decide)).mono ?_
    rintro e w12 ⟨rfl, hb12⟩
    have R12 := (R11.below hb12)
    go_wp2_with fail
    go_quiet (fail)
    go_wp2_with fail
    go_ret
    exact ⟨rfl, below_drewN R12.bel _⟩
  · skip
    have k8a0 := R7.cell 1 0 rfl rfl
    have k8a1 := R7.cell 1 1 rfl rfl
    have k8b0 := R7.cell 0 0 rfl rfl
    have k8b1 := R7.cell 0 1 rfl rfl
    go_wp2_with fail
    clear k8a0 k8a1 k8b0 k8b1
    refine (zdiv (K := 17) (L := 15) (R7.z 2 rfl) (R7.z 1 rfl) (by decide) (by decide) hz0 (by decide) (by decide)).mono ?_
    rintro e w8 ⟨b_q, A_q, n_q, b_r, A_r, n_r, rfl, z_q, z_r, hb8⟩
    have R8 := (((((R7.below hb8).add z_q).add z_r).alloc 24 #[.bool b_q, .slice A_q n_q n_q] (g := w8.heap.size) rfl rfl).alloc 24 #[.bool b_r, .slice A_r n_r n_r] (g := w8.heap.size + 1) (by simp) rfl)
    go_wp2_with fail
    refine (hsn2 _).mono ?_
    rintro e w9 ⟨b_t1, A_t1, n_t1, rfl, z_t1, hb9⟩
    have R9 := ((R8.below hb9).add z_t1)
    go_wp2_with fail
    refine (ztext (R9.z 0 rfl) (by decide)).mono ?_
    rintro e w10 ⟨rfl, hb10⟩
    have R10 := (R9.below hb10)
    go_wp2_with fail
    refine (hsn2 _).mono ?_
    rintro e w11 ⟨b_t2, A_t2, n_t2, rfl, z_t2, hb11⟩
    have R11 := ((R10.below hb11).add z_t2)
    go_wp2_with fail
    refine (rztext (R11.z 0 rfl) (by decide)).mono ?_
    rintro e w12 ⟨rfl, hb12⟩
    have R12 := (R11.below hb12)
    have HS := Lib.hid (wmod_sign za zb hz0)
    have HE := Lib.hid (wdiv_add za zb)
    have hr0 := (R12.z 2 rfl).zero_iff
    by_cases hr1 : n_r = 0
    · skip
      have hrn : ((n_r : Int) == 0) = true := by simp; omega
      clear hr0 hr1
      go_wp2_with fail
      have D13 := R12.drew
      have s13 := And.intro (D13.cell 3 0 rfl rfl) (And.intro (D13.cell 3 1 rfl rfl) (And.intro (D13.cell 2 0 rfl rfl) (And.intro (D13.cell 2 1 rfl rfl) (And.intro (D13.cell 1 0 rfl rfl) (And.intro (D13.cell 1 1 rfl rfl) (And.intro (D13.cell 0 0 rfl rfl) (D13.cell 0 1 rfl rfl)))))))
      refine wp_region_late [] (fun w' => w'.cell? ⟨w.heap.size, 0, none⟩ = some (.bool ba) ∧ w'.cell? ⟨w.heap.size, 1, none⟩ = some (.slice Aa na ca) ∧ w'.cell? ⟨w.heap.size + 1, 0, none⟩ = some (.bool bb) ∧ w'.cell? ⟨w.heap.size + 1, 1, none⟩ = some (.slice Ab nb cb) ∧ w'.cell? ⟨w8.heap.size, 0, none⟩ = some (.bool b_q) ∧ w'.cell? ⟨w8.heap.size, 1, none⟩ = some (.slice A_q n_q n_q) ∧ w'.cell? ⟨w8.heap.size + 1, 0, none⟩ = some (.bool b_r) ∧ w'.cell? ⟨w8.heap.size + 1, 1, none⟩ = some (.slice A_r n_r n_r)) (by kernel_rfl) ?_
      refine wpAnyL_take (i := 0) (v := ?_) rfl (by kernel_rfl) (by kernel_rfl) (by kernel_rfl) (by kernel_rfl) (by kernel_rfl) (fun _ _ _ h => h) (Or.inl ⟨by kernel_rfl, ?_⟩) s13 ?_
      rotate_left
      · rintro w' ⟨h1, h2, h3, h4, h5, h6, h7, h8⟩; go_simp; (try with_reducible rfl)
      try simp only [Act.put, List.getElem_toArray, List.getElem_cons_succ, List.getElem_cons_zero, List.setIfInBounds_toArray, List.set_cons_zero, List.set_cons_succ]
      refine wpAnyL_take (i := 1) (v := ?_) rfl (by kernel_rfl) (by kernel_rfl) (by kernel_rfl) (by kernel_rfl) (by kernel_rfl) (fun _ _ _ h => h) (Or.inl ⟨by kernel_rfl, ?_⟩) s13 ?_
      rotate_left
      · rintro w' ⟨h1, h2, h3, h4, h5, h6, h7, h8⟩; go_simp; (try with_reducible rfl)
      try simp only [Act.put, List.getElem_toArray, List.getElem_cons_succ, List.getElem_cons_zero, List.setIfInBounds_toArray, List.set_cons_zero, List.set_cons_succ]
      refine wpAnyL_take (i := 2) (v := ?_) rfl (by kernel_rfl) (by kernel_rfl) (by kernel_rfl) (by kernel_rfl) (by kernel_rfl) (fun _ _ _ h => h) (Or.inl ⟨by kernel_rfl, ?_⟩) s13 ?_
      rotate_left
      · rintro w' ⟨h1, h2, h3, h4, h5, h6, h7, h8⟩; go_simp; (try with_reducible rfl)
      try simp only [Act.put, List.getElem_toArray, List.getElem_cons_succ, List.getElem_cons_zero, List.setIfInBounds_toArray, List.set_cons_zero, List.set_cons_succ]
      refine wpAnyL_take (i := 3) (v := ?_) rfl (by kernel_rfl) (by kernel_rfl) (by kernel_rfl) (by kernel_rfl) (by kernel_rfl) (fun _ _ _ h => h) (Or.inl ⟨by kernel_rfl, ?_⟩) s13 ?_
      rotate_left
      · rintro w' ⟨h1, h2, h3, h4, h5, h6, h7, h8⟩; go_simp; (try with_reducible rfl)
      try simp only [Act.put, List.getElem_toArray, List.getElem_cons_succ, List.getElem_cons_zero, List.setIfInBounds_toArray, List.set_cons_zero, List.set_cons_succ]
      refine wpAnyL_take (i := 4) (v := ?_) rfl (by kernel_rfl) (by kernel_rfl) (by kernel_rfl) (by kernel_rfl) (by kernel_rfl) (fun _ _ _ h => h) (Or.inl ⟨by kernel_rfl, ?_⟩) s13 ?_
      rotate_left
      · rintro w' ⟨h1, h2, h3, h4, h5, h6, h7, h8⟩; go_simp; (try with_reducible rfl)
      try simp only [Act.put, List.getElem_toArray, List.getElem_cons_succ, List.getElem_cons_zero, List.setIfInBounds_toArray, List.set_cons_zero, List.set_cons_succ]
      refine wpAnyL_take (i := 6) (v := ?_) rfl (by kernel_rfl) (by kernel_rfl) (by kernel_rfl) (by kernel_rfl) (by kernel_rfl) (fun _ _ _ h => h) (Or.inl ⟨by kernel_rfl, ?_⟩) s13 ?_
      rotate_left
      · rintro w' ⟨h1, h2, h3, h4, h5, h6, h7, h8⟩; go_simp; (try with_reducible rfl)
      try simp only [Act.put, List.getElem_toArray, List.getElem_cons_succ, List.getElem_cons_zero, List.setIfInBounds_toArray, List.set_cons_zero, List.set_cons_succ]
      refine wpAnyL_take (i := 8) (v := ?_) rfl (by kernel_rfl) (by kernel_rfl) (by kernel_rfl) (by kernel_rfl) (by kernel_rfl) (fun _ _ _ h => h) (Or.inl ⟨by kernel_rfl, ?_⟩) s13 ?_
      rotate_left
      · rintro w' ⟨h1, h2, h3, h4, h5, h6, h7, h8⟩; go_simp; (try with_reducible rfl)
      try simp only [Act.put, List.getElem_toArray, List.getElem_cons_succ, List.getElem_cons_zero, List.setIfInBounds_toArray, List.set_cons_zero, List.set_cons_succ]
      refine wpAnyL_one (i := 5) (by kernel_rfl) rfl (fun K hK => ?_)
      go_simp
      refine (zmul (K := 31) (D13.z 3 rfl) (D13.z 5 rfl) (by decide) (by decide) (by decide)).mono ?_; rintro e w14 ⟨b_p1, A_p1, n_p1, rfl, z_p1, hb14⟩
      have R14 := ((D13.below hb14).add z_p1)
      have s14 := And.intro (R14.cell 3 0 rfl rfl) (And.intro (R14.cell 3 1 rfl rfl) (And.intro (R14.cell 2 0 rfl rfl) (And.intro (R14.cell 2 1 rfl rfl) (And.intro (R14.cell 1 0 rfl rfl) (And.intro (R14.cell 1 1 rfl rfl) (And.intro (R14.cell 0 0 rfl rfl) (R14.cell 0 1 rfl rfl)))))))
      go_wp2_with fail
      refine hK.out _ _ (fun _ => s14) ?_
      clear hK K
      try simp only [Act.put, List.getElem_toArray, List.getElem_cons_succ, List.getElem_cons_zero, List.setIfInBounds_toArray, List.set_cons_zero, List.set_cons_succ]
      refine wpAnyL_one (i := 7) (by kernel_rfl) rfl (fun K hK => ?_)
      go_simp
      refine (zadd (K := 32) (R14.z 0 rfl) (R14.z 3 rfl) (by decide) (by decide) (by decide)).mono ?_; rintro e w15 ⟨b_p2, A_p2, n_p2, rfl, z_p2, hb15⟩
      have R15 := ((R14.below hb15).add z_p2)
      have s15 := And.intro (R15.cell 3 0 rfl rfl) (And.intro (R15.cell 3 1 rfl rfl) (And.intro (R15.cell 2 0 rfl rfl) (And.intro (R15.cell 2 1 rfl rfl) (And.intro (R15.cell 1 0 rfl rfl) (And.intro (R15.cell 1 1 rfl rfl) (And.intro (R15.cell 0 0 rfl rfl) (R15.cell 0 1 rfl rfl)))))))
      go_wp2_with fail
      refine hK.out _ _ (fun _ => s15) ?_
      clear hK K
      try simp only [Act.put, List.getElem_toArray, List.getElem_cons_succ, List.getElem_cons_zero, List.setIfInBounds_toArray, List.set_cons_zero, List.set_cons_succ]
      refine wpAnyL_one (i := 9) (by kernel_rfl) rfl (fun K hK => ?_)
      go_simp
      refine (rplain_t (K := 14) (R15.z 8 rfl) (by decide) (by decide)).mono ?_; rintro e w16 ⟨b_p3, A_p3, n_p3, c_p3, rfl, z_p3, hb16⟩
      have R16 := ((R15.below hb16).add z_p3)
      have s16 := And.intro (R16.cell 3 0 rfl rfl) (And.intro (R16.cell 3 1 rfl rfl) (And.intro (R16.cell 2 0 rfl rfl) (And.intro (R16.cell 2 1 rfl rfl) (And.intro (R16.cell 1 0 rfl rfl) (And.intro (R16.cell 1 1 rfl rfl) (And.intro (R16.cell 0 0 rfl rfl) (R16.cell 0 1 rfl rfl)))))))
      go_wp2_with fail
      refine hK.out _ _ (fun _ => s16) ?_
      clear hK K
      try simp only [Act.put, List.getElem_toArray, List.getElem_cons_succ, List.getElem_cons_zero, List.setIfInBounds_toArray, List.set_cons_zero, List.set_cons_succ]
      refine wpAnyL_one (i := 10) (by kernel_rfl) rfl (fun K hK => ?_)
      go_simp
      refine (zsame_true (R16.z 1 rfl) (R16.z 0 rfl) (by decide) (by decide) HE.out).mono ?_; rintro e w17 ⟨rfl, hb17⟩
      have R17 := (R16.below hb17)
      have s17 := And.intro (R17.cell 3 0 rfl rfl) (And.intro (R17.cell 3 1 rfl rfl) (And.intro (R17.cell 2 0 rfl rfl) (And.intro (R17.cell 2 1 rfl rfl) (And.intro (R17.cell 1 0 rfl rfl) (And.intro (R17.cell 1 1 rfl rfl) (And.intro (R17.cell 0 0 rfl rfl) (R17.cell 0 1 rfl rfl)))))))
      go_wp2_with fail
      refine hK.out _ _ (fun _ => s17) ?_
      clear hK K
      try simp only [Act.put, List.getElem_toArray, List.getElem_cons_succ, List.getElem_cons_zero, List.setIfInBounds_toArray, List.set_cons_zero, List.set_cons_succ]
      refine wpAnyL_take (i := 11) (v := ?_) rfl (by kernel_rfl) (by kernel_rfl) (by kernel_rfl) (by kernel_rfl) (by kernel_rfl) (fun _ _ _ h => h) (Or.inl ⟨by kernel_rfl, ?_⟩) s17 ?_
      rotate_left
      · rintro w' ⟨h1, h2, h3, h4, h5, h6, h7, h8⟩; go_simp; (try with_reducible rfl)
      try simp only [Act.put, List.getElem_toArray, List.getElem_cons_succ, List.getElem_cons_zero, List.setIfInBounds_toArray, List.set_cons_zero, List.set_cons_succ]
      refine wpAnyL_take (i := 12) (v := ?_) rfl (by kernel_rfl) (by kernel_rfl) (by kernel_rfl) (by kernel_rfl) (by kernel_rfl) (fun _ _ _ h => h) (Or.inl ⟨by kernel_rfl, ?_⟩) s17 ?_
      rotate_left
      · rintro w' ⟨h1, h2, h3, h4, h5, h6, h7, h8⟩; go_simp; (try with_reducible rfl)
      try simp only [Act.put, List.getElem_toArray, List.getElem_cons_succ, List.getElem_cons_zero, List.setIfInBounds_toArray, List.set_cons_zero, List.set_cons_succ]
      refine wpAnyL_take (i := 13) (v := ?_) rfl (by kernel_rfl) (by kernel_rfl) (by kernel_rfl) (by kernel_rfl) (by kernel_rfl) (fun _ _ _ h => h) (Or.inl ⟨by kernel_rfl, ?_⟩) s17 ?_
      rotate_left
      · rintro w' ⟨h1, h2, h3, h4, h5, h6, h7, h8⟩; go_simp; (try with_reducible rfl)
      try simp only [Act.put, List.getElem_toArray, List.getElem_cons_succ, List.getElem_cons_zero, List.setIfInBounds_toArray, List.set_cons_zero, List.set_cons_succ]
      refine wpAnyL_take (i := 14) (v := ?_) rfl (by kernel_rfl) (by kernel_rfl) (by kernel_rfl) (by kernel_rfl) (by kernel_rfl) (fun _ _ _ h => h) (Or.inl ⟨by kernel_rfl, ?_⟩) s17 ?_
      rotate_left
      · rintro w' ⟨h1, h2, h3, h4, h5, h6, h7, h8⟩; go_simp; (try with_reducible rfl)
      try simp only [Act.put, List.getElem_toArray, List.getElem_cons_succ, List.getElem_cons_zero, List.setIfInBounds_toArray, List.set_cons_zero, List.set_cons_succ]
      refine wpAnyL_take (i := 15) (v := ?_) rfl (by kernel_rfl) (by kernel_rfl) (by kernel_rfl) (by kernel_rfl) (by kernel_rfl) (fun _ _ _ h => h) (Or.inl ⟨by kernel_rfl, ?_⟩) s17 ?_
      rotate_left
      · rintro w' ⟨h1, h2, h3, h4, h5, h6, h7, h8⟩; go_simp; (try with_reducible rfl)
      try simp only [Act.put, List.getElem_toArray, List.getElem_cons_succ, List.getElem_cons_zero, List.setIfInBounds_toArray, List.set_cons_zero, List.set_cons_succ]
      refine wpAnyL_take (i := 16) (v := ?_) rfl (by kernel_rfl) (by kernel_rfl) (by kernel_rfl) (by kernel_rfl) (by kernel_rfl) (fun _ _ _ h => h) (Or.inl ⟨by kernel_rfl, ?_⟩) s17 ?_
      rotate_left
      · rintro w' ⟨h1, h2, h3, h4, h5, h6, h7, h8⟩; go_simp; (try with_reducible rfl)
      try simp only [Act.put, List.getElem_toArray, List.getElem_cons_succ, List.getElem_cons_zero, List.setIfInBounds_toArray, List.set_cons_zero, List.set_cons_succ]
      refine wpAnyL_take (i := 17) (v := undef) rfl (by kernel_rfl) (by kernel_rfl) (by kernel_rfl) (by kernel_rfl) (by kernel_rfl) (fun _ _ _ h => h) (Or.inr ⟨by kernel_rfl, rfl⟩) s17 ?_
      try simp only [Act.put, List.getElem_toArray, List.getElem_cons_succ, List.getElem_cons_zero, List.setIfInBounds_toArray, List.set_cons_zero, List.set_cons_succ]
      refine wpAnyL_take (i := 18) (v := undef) rfl (by kernel_rfl) (by kernel_rfl) (by kernel_rfl) (by kernel_rfl) (by kernel_rfl) (fun _ _ _ h => h) (Or.inr ⟨by kernel_rfl, rfl⟩) s17 ?_
      try simp only [Act.put, List.getElem_toArray, List.getElem_cons_succ, List.getElem_cons_zero, List.setIfInBounds_toArray, List.set_cons_zero, List.set_cons_succ]
      refine wpAnyL_take (i := 19) (v := undef) rfl (by kernel_rfl) (by kernel_rfl) (by kernel_rfl) (by kernel_rfl) (by kernel_rfl) (fun _ _ _ h => h) (Or.inr ⟨by kernel_rfl, rfl⟩) s17 ?_
      try simp only [Act.put, List.getElem_toArray, List.getElem_cons_succ, List.getElem_cons_zero, List.setIfInBounds_toArray, List.set_cons_zero, List.set_cons_succ]
      refine wpAnyL_one (i := 20) (by kernel_rfl) rfl (fun K hK => ?_)
      rw [if_neg (Bool.eq_false_iff.1 (by kernel_rfl))]
      refine hK.out _ _ (fun _ => s17) ?_
      clear hK K
      try simp only [Act.put, List.getElem_toArray, List.getElem_cons_succ, List.getElem_cons_zero, List.setIfInBounds_toArray, List.set_cons_zero, List.set_cons_succ]
      refine wpAnyL_take (i := 21) (v := undef) rfl (by kernel_rfl) (by kernel_rfl) (by kernel_rfl) (by kernel_rfl) (by kernel_rfl) (fun _ _ _ h => h) (Or.inr ⟨by kernel_rfl, rfl⟩) s17 ?_
      try simp only [Act.put, List.getElem_toArray, List.getElem_cons_succ, List.getElem_cons_zero, List.setIfInBounds_toArray, List.set_cons_zero, List.set_cons_succ]
      refine wpAnyL_take (i := 22) (v := undef) rfl (by kernel_rfl) (by kernel_rfl) (by kernel_rfl) (by kernel_rfl) (by kernel_rfl) (fun _ _ _ h => h) (Or.inr ⟨by kernel_rfl, rfl⟩) s17 ?_
      try simp only [Act.put, List.getElem_toArray, List.getElem_cons_succ, List.getElem_cons_zero, List.setIfInBounds_toArray, List.set_cons_zero, List.set_cons_succ]
      refine wpAnyL_take (i := 23) (v := ?_) rfl (by kernel_rfl) (by kernel_rfl) (by kernel_rfl) (by kernel_rfl) (by kernel_rfl) (fun _ _ _ h => h) (Or.inl ⟨by kernel_rfl, ?_⟩) s17 ?_
      rotate_left
      · rintro w' ⟨h1, h2, h3, h4, h5, h6, h7, h8⟩; go_simp; (try with_reducible rfl)
      try simp only [Act.put, List.getElem_toArray, List.getElem_cons_succ, List.getElem_cons_zero, List.setIfInBounds_toArray, List.set_cons_zero, List.set_cons_succ]
      refine wpAnyL_take (i := 24) (v := ?_) rfl (by kernel_rfl) (by kernel_rfl) (by kernel_rfl) (by kernel_rfl) (by kernel_rfl) (fun _ _ _ h => h) (Or.inl ⟨by kernel_rfl, ?_⟩) s17 ?_
      rotate_left
      · rintro w' ⟨h1, h2, h3, h4, h5, h6, h7, h8⟩; go_simp; (try with_reducible rfl)
      try simp only [Act.put, List.getElem_toArray, List.getElem_cons_succ, List.getElem_cons_zero, List.setIfInBounds_toArray, List.set_cons_zero, List.set_cons_succ]
      refine wpAnyL_take (i := 25) (v := ?_) rfl (by kernel_rfl) (by kernel_rfl) (by kernel_rfl) (by kernel_rfl) (by kernel_rfl) (fun _ _ _ h => h) (Or.inl ⟨by kernel_rfl, ?_⟩) s17 ?_
      rotate_left
      · rintro w' ⟨h1, h2, h3, h4, h5, h6, h7, h8⟩; go_simp; (try with_reducible rfl)
      try simp only [Act.put, List.getElem_toArray, List.getElem_cons_succ, List.getElem_cons_zero, List.setIfInBounds_toArray, List.set_cons_zero, List.set_cons_succ]
      refine wpAnyL_take (i := 26) (v := ?_) rfl (by kernel_rfl) (by kernel_rfl) (by kernel_rfl) (by kernel_rfl) (by kernel_rfl) (fun _ _ _ h => h) (Or.inl ⟨by kernel_rfl, ?_⟩) s17 ?_
      rotate_left
      · rintro w' ⟨h1, h2, h3, h4, h5, h6, h7, h8⟩; go_simp; (try with_reducible rfl)
      try simp only [Act.put, List.getElem_toArray, List.getElem_cons_succ, List.getElem_cons_zero, List.setIfInBounds_toArray, List.set_cons_zero, List.set_cons_succ]
      refine wpAnyL_take (i := 27) (v := ?_) rfl (by kernel_rfl) (by kernel_rfl) (by kernel_rfl) (by kernel_rfl) (by kernel_rfl) (fun _ _ _ h => h) (Or.inl ⟨by kernel_rfl, ?_⟩) s17 ?_
      rotate_left
      · rintro w' ⟨h1, h2, h3, h4, h5, h6, h7, h8⟩; go_simp; (try with_reducible rfl)
      try simp only [Act.put, List.getElem_toArray, List.getElem_cons_succ, List.getElem_cons_zero, List.setIfInBounds_toArray, List.set_cons_zero, List.set_cons_succ]
      refine wpAnyL_take (i := 28) (v := ?_) rfl (by kernel_rfl) (by kernel_rfl) (by kernel_rfl) (by kernel_rfl) (by kernel_rfl) (fun _ _ _ h => h) (Or.inl ⟨by kernel_rfl, ?_⟩) s17 ?_
      rotate_left
      · rintro w' ⟨h1, h2, h3, h4, h5, h6, h7, h8⟩; go_simp; (try with_reducible rfl)
      try simp only [Act.put, List.getElem_toArray, List.getElem_cons_succ, List.getElem_cons_zero, List.setIfInBounds_toArray, List.set_cons_zero, List.set_cons_succ]
      refine wpAnyL_take (i := 29) (v := ?_) rfl (by kernel_rfl) (by kernel_rfl) (by kernel_rfl) (by kernel_rfl) (by kernel_rfl) (fun _ _ _ h => h) (Or.inl ⟨by kernel_rfl, ?_⟩) s17 ?_
      rotate_left
      · rintro w' ⟨h1, h2, h3, h4, h5, h6, h7, h8⟩; go_simp; (try with_reducible rfl)
      try simp only [Act.put, List.getElem_toArray, List.getElem_cons_succ, List.getElem_cons_zero, List.setIfInBounds_toArray, List.set_cons_zero, List.set_cons_succ]
      refine wpAnyL_one (i := 30) (by kernel_rfl) rfl (fun K hK => ?_)
      go_simp
      refine (zmag_lt (R17.z 5 rfl) (R17.z 8 rfl) (by decide) (by decide) HS.out.1).mono ?_; rintro e w18 ⟨rfl, hb18⟩
      have R18 := (R17.below hb18)
      have s18 := And.intro (R18.cell 3 0 rfl rfl) (And.intro (R18.cell 3 1 rfl rfl) (And.intro (R18.cell 2 0 rfl rfl) (And.intro (R18.cell 2 1 rfl rfl) (And.intro (R18.cell 1 0 rfl rfl) (And.intro (R18.cell 1 1 rfl rfl) (And.intro (R18.cell 0 0 rfl rfl) (R18.cell 0 1 rfl rfl)))))))
      go_wp2_with fail
      refine hK.out _ _ (fun _ => s18) ?_
      clear hK K
      try simp only [Act.put, List.getElem_toArray, List.getElem_cons_succ, List.getElem_cons_zero, List.setIfInBounds_toArray, List.set_cons_zero, List.set_cons_succ]
      refine wpAnyL_take (i := 31) (v := ?_) rfl (by kernel_rfl) (by kernel_rfl) (by kernel_rfl) (by kernel_rfl) (by kernel_rfl) (fun _ _ _ h => h) (Or.inl ⟨by kernel_rfl, ?_⟩) s18 ?_
      rotate_left
      · rintro w' ⟨h1, h2, h3, h4, h5, h6, h7, h8⟩; go_simp; (try with_reducible rfl)
      try simp only [Act.put, List.getElem_toArray, List.getElem_cons_succ, List.getElem_cons_zero, List.setIfInBounds_toArray, List.set_cons_zero, List.set_cons_succ]
      refine wpAnyL_take (i := 32) (v := ?_) rfl (by kernel_rfl) (by kernel_rfl) (by kernel_rfl) (by kernel_rfl) (by kernel_rfl) (fun _ _ _ h => h) (Or.inl ⟨by kernel_rfl, ?_⟩) s18 ?_
      rotate_left
      · rintro w' ⟨h1, h2, h3, h4, h5, h6, h7, h8⟩; go_simp; (try with_reducible rfl)
      try simp only [Act.put, List.getElem_toArray, List.getElem_cons_succ, List.getElem_cons_zero, List.setIfInBounds_toArray, List.set_cons_zero, List.set_cons_succ]
      refine wpAnyL_take (i := 33) (v := ?_) rfl (by kernel_rfl) (by kernel_rfl) (by kernel_rfl) (by kernel_rfl) (by kernel_rfl) (fun _ _ _ h => h) (Or.inl ⟨by kernel_rfl, ?_⟩) s18 ?_
      rotate_left
      · rintro w' ⟨h1, h2, h3, h4, h5, h6, h7, h8⟩; go_simp; (try with_reducible rfl)
      try simp only [Act.put, List.getElem_toArray, List.getElem_cons_succ, List.getElem_cons_zero, List.setIfInBounds_toArray, List.set_cons_zero, List.set_cons_succ]
      refine wpAnyL_take (i := 34) (v := ?_) rfl (by kernel_rfl) (by kernel_rfl) (by kernel_rfl) (by kernel_rfl) (by kernel_rfl) (fun _ _ _ h => h) (Or.inl ⟨by kernel_rfl, ?_⟩) s18 ?_
      rotate_left
      · rintro w' ⟨h1, h2, h3, h4, h5, h6, h7, h8⟩; go_simp; (try with_reducible rfl)
      try simp only [Act.put, List.getElem_toArray, List.getElem_cons_succ, List.getElem_cons_zero, List.setIfInBounds_toArray, List.set_cons_zero, List.set_cons_succ]
      refine wpAnyL_done (by kernel_rfl) ?_ _
      go_wp2_with fail
      go_ret
      exact ⟨rfl, R18.bel⟩
    · skip
      have hrn : ((n_r : Int) == 0) = false := by simp; omega
      have hrz : wmod za zb ≠ 0 := fun h => hr1 (hr0.2 h)
      clear hr0
      go_wp2_with fail
      have D13 := R12.drew
      have s13 := And.intro (D13.cell 3 0 rfl rfl) (And.intro (D13.cell 3 1 rfl rfl) (And.intro (D13.cell 2 0 rfl rfl) (And.intro (D13.cell 2 1 rfl rfl) (And.intro (D13.cell 1 0 rfl rfl) (And.intro (D13.cell 1 1 rfl rfl) (And.intro (D13.cell 0 0 rfl rfl) (D13.cell 0 1 rfl rfl)))))))
      refine wp_region_late [] (fun w' => w'.cell? ⟨w.heap.size, 0, none⟩ = some (.bool ba) ∧ w'.cell? ⟨w.heap.size, 1, none⟩ = some (.slice Aa na ca) ∧ w'.cell? ⟨w.heap.size + 1, 0, none⟩ = some (.bool bb) ∧ w'.cell? ⟨w.heap.size + 1, 1, none⟩ = some (.slice Ab nb cb) ∧ w'.cell? ⟨w8.heap.size, 0, none⟩ = some (.bool b_q) ∧ w'.cell? ⟨w8.heap.size, 1, none⟩ = some (.slice A_q n_q n_q) ∧ w'.cell? ⟨w8.heap.size + 1, 0, none⟩ = some (.bool b_r) ∧ w'.cell? ⟨w8.heap.size + 1, 1, none⟩ = some (.slice A_r n_r n_r)) (by kernel_rfl) ?_
      refine wpAnyL_take (i := 0) (v := ?_) rfl (by kernel_rfl) (by kernel_rfl) (by kernel_rfl) (by kernel_rfl) (by kernel_rfl) (fun _ _ _ h => h) (Or.inl ⟨by kernel_rfl, ?_⟩) s13 ?_
      rotate_left
      · rintro w' ⟨h1, h2, h3, h4, h5, h6, h7, h8⟩; go_simp; (try with_reducible rfl)
      try simp only [Act.put, List.getElem_toArray, List.getElem_cons_succ, List.getElem_cons_zero, List.setIfInBounds_toArray, List.set_cons_zero, List.set_cons_succ]
      refine wpAnyL_take (i := 1) (v := ?_) rfl (by kernel_rfl) (by kernel_rfl) (by kernel_rfl) (by kernel_rfl) (by kernel_rfl) (fun _ _ _ h => h) (Or.inl ⟨by kernel_rfl, ?_⟩) s13 ?_
      rotate_left
      · rintro w' ⟨h1, h2, h3, h4, h5, h6, h7, h8⟩; go_simp; (try with_reducible rfl)
      try simp only [Act.put, List.getElem_toArray, List.getElem_cons_succ, List.getElem_cons_zero, List.setIfInBounds_toArray, List.set_cons_zero, List.set_cons_succ]
      refine wpAnyL_take (i := 2) (v := ?_) rfl (by kernel_rfl) (by kernel_rfl) (by kernel_rfl) (by kernel_rfl) (by kernel_rfl) (fun _ _ _ h => h) (Or.inl ⟨by kernel_rfl, ?_⟩) s13 ?_
      rotate_left
      · rintro w' ⟨h1, h2, h3, h4, h5, h6, h7, h8⟩; go_simp; (try with_reducible rfl)
      try simp only [Act.put, List.getElem_toArray, List.getElem_cons_succ, List.getElem_cons_zero, List.setIfInBounds_toArray, List.set_cons_zero, List.set_cons_succ]
      refine wpAnyL_take (i := 3) (v := ?_) rfl (by kernel_rfl) (by kernel_rfl) (by kernel_rfl) (by kernel_rfl) (by kernel_rfl) (fun _ _ _ h => h) (Or.inl ⟨by kernel_rfl, ?_⟩) s13 ?_
      rotate_left
      · rintro w' ⟨h1, h2, h3, h4, h5, h6, h7, h8⟩; go_simp; (try with_reducible rfl)
      try simp only [Act.put, List.getElem_toArray, List.getElem_cons_succ, List.getElem_cons_zero, List.setIfInBounds_toArray, List.set_cons_zero, List.set_cons_succ]
      refine wpAnyL_take (i := 4) (v := ?_) rfl (by kernel_rfl) (by kernel_rfl) (by kernel_rfl) (by kernel_rfl) (by kernel_rfl) (fun _ _ _ h => h) (Or.inl ⟨by kernel_rfl, ?_⟩) s13 ?_
      rotate_left
      · rintro w' ⟨h1, h2, h3, h4, h5, h6, h7, h8⟩; go_simp; (try with_reducible rfl)
      try simp only [Act.put, List.getElem_toArray, List.getElem_cons_succ, List.getElem_cons_zero, List.setIfInBounds_toArray, List.set_cons_zero, List.set_cons_succ]
      refine wpAnyL_take (i := 6) (v := ?_) rfl (by kernel_rfl) (by kernel_rfl) (by kernel_rfl) (by kernel_rfl) (by kernel_rfl) (fun _ _ _ h => h) (Or.inl ⟨by kernel_rfl, ?_⟩) s13 ?_
      rotate_left
      · rintro w' ⟨h1, h2, h3, h4, h5, h6, h7, h8⟩; go_simp; (try with_reducible rfl)
      try simp only [Act.put, List.getElem_toArray, List.getElem_cons_succ, List.getElem_cons_zero, List.setIfInBounds_toArray, List.set_cons_zero, List.set_cons_succ]
      refine wpAnyL_take (i := 8) (v := ?_) rfl (by kernel_rfl) (by kernel_rfl) (by kernel_rfl) (by kernel_rfl) (by kernel_rfl) (fun _ _ _ h => h) (Or.inl ⟨by kernel_rfl, ?_⟩) s13 ?_
      rotate_left
      · rintro w' ⟨h1, h2, h3, h4, h5, h6, h7, h8⟩; go_simp; (try with_reducible rfl)
      try simp only [Act.put, List.getElem_toArray, List.getElem_cons_succ, List.getElem_cons_zero, List.setIfInBounds_toArray, List.set_cons_zero, List.set_cons_succ]
      refine wpAnyL_one (i := 5) (by kernel_rfl) rfl (fun K hK => ?_)
      go_simp
      refine (zmul (K := 31) (D13.z 3 rfl) (D13.z 5 rfl) (by decide) (by decide) (by decide)).mono ?_; rintro e w14 ⟨b_p1, A_p1, n_p1, rfl, z_p1, hb14⟩
      have R14 := ((D13.below hb14).add z_p1)
      have s14 := And.intro (R14.cell 3 0 rfl rfl) (And.intro (R14.cell 3 1 rfl rfl) (And.intro (R14.cell 2 0 rfl rfl) (And.intro (R14.cell 2 1 rfl rfl) (And.intro (R14.cell 1 0 rfl rfl) (And.intro (R14.cell 1 1 rfl rfl) (And.intro (R14.cell 0 0 rfl rfl) (R14.cell 0 1 rfl rfl)))))))
      go_wp2_with fail
      refine hK.out _ _ (fun _ => s14) ?_
      clear hK K
      try simp only [Act.put, List.getElem_toArray, List.getElem_cons_succ, List.getElem_cons_zero, List.setIfInBounds_toArray, List.set_cons_zero, List.set_cons_succ]
      refine wpAnyL_one (i := 7) (by kernel_rfl) rfl (fun K hK => ?_)
      go_simp
      refine (zadd (K := 32) (R14.z 0 rfl) (R14.z 3 rfl) (by decide) (by decide) (by decide)).mono ?_; rintro e w15 ⟨b_p2, A_p2, n_p2, rfl, z_p2, hb15⟩
      have R15 := ((R14.below hb15).add z_p2)
      have s15 := And.intro (R15.cell 3 0 rfl rfl) (And.intro (R15.cell 3 1 rfl rfl) (And.intro (R15.cell 2 0 rfl rfl) (And.intro (R15.cell 2 1 rfl rfl) (And.intro (R15.cell 1 0 rfl rfl) (And.intro (R15.cell 1 1 rfl rfl) (And.intro (R15.cell 0 0 rfl rfl) (R15.cell 0 1 rfl rfl)))))))
      go_wp2_with fail
      refine hK.out _ _ (fun _ => s15) ?_
      clear hK K
      try simp only [Act.put, List.getElem_toArray, List.getElem_cons_succ, List.getElem_cons_zero, List.setIfInBounds_toArray, List.set_cons_zero, List.set_cons_succ]
      refine wpAnyL_one (i := 9) (by kernel_rfl) rfl (fun K hK => ?_)
      go_simp
      refine (rplain_t (K := 14) (R15.z 8 rfl) (by decide) (by decide)).mono ?_; rintro e w16 ⟨b_p3, A_p3, n_p3, c_p3, rfl, z_p3, hb16⟩
      have R16 := ((R15.below hb16).add z_p3)
      have s16 := And.intro (R16.cell 3 0 rfl rfl) (And.intro (R16.cell 3 1 rfl rfl) (And.intro (R16.cell 2 0 rfl rfl) (And.intro (R16.cell 2 1 rfl rfl) (And.intro (R16.cell 1 0 rfl rfl) (And.intro (R16.cell 1 1 rfl rfl) (And.intro (R16.cell 0 0 rfl rfl) (R16.cell 0 1 rfl rfl)))))))
      go_wp2_with fail
      refine hK.out _ _ (fun _ => s16) ?_
      clear hK K
      try simp only [Act.put, List.getElem_toArray, List.getElem_cons_succ, List.getElem_cons_zero, List.setIfInBounds_toArray, List.set_cons_zero, List.set_cons_succ]
      refine wpAnyL_one (i := 10) (by kernel_rfl) rfl (fun K hK => ?_)
      go_simp
      refine (zsame_true (R16.z 1 rfl) (R16.z 0 rfl) (by decide) (by decide) HE.out).mono ?_; rintro e w17 ⟨rfl, hb17⟩
      have R17 := (R16.below hb17)
      have s17 := And.intro (R17.cell 3 0 rfl rfl) (And.intro (R17.cell 3 1 rfl rfl) (And.intro (R17.cell 2 0 rfl rfl) (And.intro (R17.cell 2 1 rfl rfl) (And.intro (R17.cell 1 0 rfl rfl) (And.intro (R17.cell 1 1 rfl rfl) (And.intro (R17.cell 0 0 rfl rfl) (R17.cell 0 1 rfl rfl)))))))
      go_wp2_with fail
      refine hK.out _ _ (fun _ => s17) ?_
      clear hK K
      try simp only [Act.put, List.getElem_toArray, List.getElem_cons_succ, List.getElem_cons_zero, List.setIfInBounds_toArray, List.set_cons_zero, List.set_cons_succ]
      refine wpAnyL_take (i := 11) (v := ?_) rfl (by kernel_rfl) (by kernel_rfl) (by kernel_rfl) (by kernel_rfl) (by kernel_rfl) (fun _ _ _ h => h) (Or.inl ⟨by kernel_rfl, ?_⟩) s17 ?_
      rotate_left
      · rintro w' ⟨h1, h2, h3, h4, h5, h6, h7, h8⟩; go_simp; (try with_reducible rfl)
      try simp only [Act.put, List.getElem_toArray, List.getElem_cons_succ, List.getElem_cons_zero, List.setIfInBounds_toArray, List.set_cons_zero, List.set_cons_succ]
      refine wpAnyL_take (i := 12) (v := ?_) rfl (by kernel_rfl) (by kernel_rfl) (by kernel_rfl) (by kernel_rfl) (by kernel_rfl) (fun _ _ _ h => h) (Or.inl ⟨by kernel_rfl, ?_⟩) s17 ?_
      rotate_left
      · rintro w' ⟨h1, h2, h3, h4, h5, h6, h7, h8⟩; go_simp; (try with_reducible rfl)
      try simp only [Act.put, List.getElem_toArray, List.getElem_cons_succ, List.getElem_cons_zero, List.setIfInBounds_toArray, List.set_cons_zero, List.set_cons_succ]
      refine wpAnyL_take (i := 13) (v := ?_) rfl (by kernel_rfl) (by kernel_rfl) (by kernel_rfl) (by kernel_rfl) (by kernel_rfl) (fun _ _ _ h => h) (Or.inl ⟨by kernel_rfl, ?_⟩) s17 ?_
      rotate_left
      · rintro w' ⟨h1, h2, h3, h4, h5, h6, h7, h8⟩; go_simp; (try with_reducible rfl)
      try simp only [Act.put, List.getElem_toArray, List.getElem_cons_succ, List.getElem_cons_zero, List.setIfInBounds_toArray, List.set_cons_zero, List.set_cons_succ]
      refine wpAnyL_take (i := 14) (v := ?_) rfl (by kernel_rfl) (by kernel_rfl) (by kernel_rfl) (by kernel_rfl) (by kernel_rfl) (fun _ _ _ h => h) (Or.inl ⟨by kernel_rfl, ?_⟩) s17 ?_
      rotate_left
      · rintro w' ⟨h1, h2, h3, h4, h5, h6, h7, h8⟩; go_simp; (try with_reducible rfl)
      try simp only [Act.put, List.getElem_toArray, List.getElem_cons_succ, List.getElem_cons_zero, List.setIfInBounds_toArray, List.set_cons_zero, List.set_cons_succ]
      refine wpAnyL_take (i := 15) (v := ?_) rfl (by kernel_rfl) (by kernel_rfl) (by kernel_rfl) (by kernel_rfl) (by kernel_rfl) (fun _ _ _ h => h) (Or.inl ⟨by kernel_rfl, ?_⟩) s17 ?_
      rotate_left
      · rintro w' ⟨h1, h2, h3, h4, h5, h6, h7, h8⟩; go_simp; (try with_reducible rfl)
      try simp only [Act.put, List.getElem_toArray, List.getElem_cons_succ, List.getElem_cons_zero, List.setIfInBounds_toArray, List.set_cons_zero, List.set_cons_succ]
      refine wpAnyL_take (i := 16) (v := ?_) rfl (by kernel_rfl) (by kernel_rfl) (by kernel_rfl) (by kernel_rfl) (by kernel_rfl) (fun _ _ _ h => h) (Or.inl ⟨by kernel_rfl, ?_⟩) s17 ?_
      rotate_left
      · rintro w' ⟨h1, h2, h3, h4, h5, h6, h7, h8⟩; go_simp; (try with_reducible rfl)
      try simp only [Act.put, List.getElem_toArray, List.getElem_cons_succ, List.getElem_cons_zero, List.setIfInBounds_toArray, List.set_cons_zero, List.set_cons_succ]
      refine wpAnyL_take (i := 17) (v := ?_) rfl (by kernel_rfl) (by kernel_rfl) (by kernel_rfl) (by kernel_rfl) (by kernel_rfl) (fun _ _ _ h => h) (Or.inl ⟨by kernel_rfl, ?_⟩) s17 ?_
      rotate_left
      · rintro w' ⟨h1, h2, h3, h4, h5, h6, h7, h8⟩; go_simp; (try with_reducible rfl)
      try simp only [Act.put, List.getElem_toArray, List.getElem_cons_succ, List.getElem_cons_zero, List.setIfInBounds_toArray, List.set_cons_zero, List.set_cons_succ]
      refine wpAnyL_take (i := 18) (v := ?_) rfl (by kernel_rfl) (by kernel_rfl) (by kernel_rfl) (by kernel_rfl) (by kernel_rfl) (fun _ _ _ h => h) (Or.inl ⟨by kernel_rfl, ?_⟩) s17 ?_
      rotate_left
      · rintro w' ⟨h1, h2, h3, h4, h5, h6, h7, h8⟩; go_simp; (try with_reducible rfl)
      try simp only [Act.put, List.getElem_toArray, List.getElem_cons_succ, List.getElem_cons_zero, List.setIfInBounds_toArray, List.set_cons_zero, List.set_cons_succ]
      refine wpAnyL_take (i := 19) (v := ?_) rfl (by kernel_rfl) (by kernel_rfl) (by kernel_rfl) (by kernel_rfl) (by kernel_rfl) (fun _ _ _ h => h) (Or.inl ⟨by kernel_rfl, ?_⟩) s17 ?_
      rotate_left
      · rintro w' ⟨h1, h2, h3, h4, h5, h6, h7, h8⟩; go_simp; (try with_reducible rfl)
      try simp only [Act.put, List.getElem_toArray, List.getElem_cons_succ, List.getElem_cons_zero, List.setIfInBounds_toArray, List.set_cons_zero, List.set_cons_succ]
      refine wpAnyL_one (i := 20) (by kernel_rfl) rfl (fun K hK => ?_)
      go_simp
      refine (rplain_t (K := 14) (R17.z 8 rfl) (by decide) (by decide)).mono ?_; rintro e w18 ⟨b_p4, A_p4, n_p4, c_p4, rfl, z_p4, hb18⟩
      have R18 := ((R17.below hb18).add z_p4)
      have hfl := fun w0 => run_fld0 b_p4 A_p4 n_p4 c_p4 w0; have hsg : b_p4 = b_r := by { rw [z_p4.limbs.2, z_r.limbs.2]; rcases HS.out.2 with h | h; (exact absurd h hrz); exact h.symm }; subst hsg
      have s18 := And.intro (R18.cell 3 0 rfl rfl) (And.intro (R18.cell 3 1 rfl rfl) (And.intro (R18.cell 2 0 rfl rfl) (And.intro (R18.cell 2 1 rfl rfl) (And.intro (R18.cell 1 0 rfl rfl) (And.intro (R18.cell 1 1 rfl rfl) (And.intro (R18.cell 0 0 rfl rfl) (R18.cell 0 1 rfl rfl)))))))
      go_wp2_with fail
      refine hK.out _ _ (fun _ => s18) ?_
      clear hK K
      try simp only [Act.put, List.getElem_toArray, List.getElem_cons_succ, List.getElem_cons_zero, List.setIfInBounds_toArray, List.set_cons_zero, List.set_cons_succ]
      refine wpAnyL_take (i := 21) (v := ?_) rfl (by kernel_rfl) (by kernel_rfl) (by kernel_rfl) (by kernel_rfl) (by kernel_rfl) (fun _ _ _ h => h) (Or.inl ⟨by kernel_rfl, ?_⟩) s18 ?_
      rotate_left
      · rintro w' ⟨h1, h2, h3, h4, h5, h6, h7, h8⟩; go_simp; (try with_reducible rfl)
      try simp only [Act.put, List.getElem_toArray, List.getElem_cons_succ, List.getElem_cons_zero, List.setIfInBounds_toArray, List.set_cons_zero, List.set_cons_succ]
      refine wpAnyL_take (i := 22) (v := ?_) rfl (by kernel_rfl) (by kernel_rfl) (by kernel_rfl) (by kernel_rfl) (by kernel_rfl) (fun _ _ _ h => h) (Or.inl ⟨by kernel_rfl, ?_⟩) s18 ?_
      rotate_left
      · rintro w' ⟨h1, h2, h3, h4, h5, h6, h7, h8⟩; go_simp; (try with_reducible rfl)
      try simp only [Act.put, List.getElem_toArray, List.getElem_cons_succ, List.getElem_cons_zero, List.setIfInBounds_toArray, List.set_cons_zero, List.set_cons_succ]
      refine wpAnyL_take (i := 23) (v := ?_) rfl (by kernel_rfl) (by kernel_rfl) (by kernel_rfl) (by kernel_rfl) (by kernel_rfl) (fun _ _ _ h => h) (Or.inl ⟨by kernel_rfl, ?_⟩) s18 ?_
      rotate_left
      · rintro w' ⟨h1, h2, h3, h4, h5, h6, h7, h8⟩; go_simp; (try with_reducible rfl)
      try simp only [Act.put, List.getElem_toArray, List.getElem_cons_succ, List.getElem_cons_zero, List.setIfInBounds_toArray, List.set_cons_zero, List.set_cons_succ]
      refine wpAnyL_take (i := 24) (v := ?_) rfl (by kernel_rfl) (by kernel_rfl) (by kernel_rfl) (by kernel_rfl) (by kernel_rfl) (fun _ _ _ h => h) (Or.inl ⟨by kernel_rfl, ?_⟩) s18 ?_
      rotate_left
      · rintro w' ⟨h1, h2, h3, h4, h5, h6, h7, h8⟩; go_simp; (try with_reducible rfl)
      try simp only [Act.put, List.getElem_toArray, List.getElem_cons_succ, List.getElem_cons_zero, List.setIfInBounds_toArray, List.set_cons_zero, List.set_cons_succ]
      refine wpAnyL_take (i := 25) (v := ?_) rfl (by kernel_rfl) (by kernel_rfl) (by kernel_rfl) (by kernel_rfl) (by kernel_rfl) (fun _ _ _ h => h) (Or.inl ⟨by kernel_rfl, ?_⟩) s18 ?_
      rotate_left
      · rintro w' ⟨h1, h2, h3, h4, h5, h6, h7, h8⟩; go_simp; (try with_reducible rfl)
      try simp only [Act.put, List.getElem_toArray, List.getElem_cons_succ, List.getElem_cons_zero, List.setIfInBounds_toArray, List.set_cons_zero, List.set_cons_succ]
      refine wpAnyL_take (i := 26) (v := ?_) rfl (by kernel_rfl) (by kernel_rfl) (by kernel_rfl) (by kernel_rfl) (by kernel_rfl) (fun _ _ _ h => h) (Or.inl ⟨by kernel_rfl, ?_⟩) s18 ?_
      rotate_left
      · rintro w' ⟨h1, h2, h3, h4, h5, h6, h7, h8⟩; go_simp; (try with_reducible rfl)
      try simp only [Act.put, List.getElem_toArray, List.getElem_cons_succ, List.getElem_cons_zero, List.setIfInBounds_toArray, List.set_cons_zero, List.set_cons_succ]
      refine wpAnyL_take (i := 27) (v := ?_) rfl (by kernel_rfl) (by kernel_rfl) (by kernel_rfl) (by kernel_rfl) (by kernel_rfl) (fun _ _ _ h => h) (Or.inl ⟨by kernel_rfl, ?_⟩) s18 ?_
      rotate_left
      · rintro w' ⟨h1, h2, h3, h4, h5, h6, h7, h8⟩; go_simp; (try with_reducible rfl)
      try simp only [Act.put, List.getElem_toArray, List.getElem_cons_succ, List.getElem_cons_zero, List.setIfInBounds_toArray, List.set_cons_zero, List.set_cons_succ]
      refine wpAnyL_take (i := 28) (v := ?_) rfl (by kernel_rfl) (by kernel_rfl) (by kernel_rfl) (by kernel_rfl) (by kernel_rfl) (fun _ _ _ h => h) (Or.inl ⟨by kernel_rfl, ?_⟩) s18 ?_
      rotate_left
      · rintro w' ⟨h1, h2, h3, h4, h5, h6, h7, h8⟩; go_simp; (try with_reducible rfl)
      try simp only [Act.put, List.getElem_toArray, List.getElem_cons_succ, List.getElem_cons_zero, List.setIfInBounds_toArray, List.set_cons_zero, List.set_cons_succ]
      refine wpAnyL_take (i := 29) (v := ?_) rfl (by kernel_rfl) (by kernel_rfl) (by kernel_rfl) (by kernel_rfl) (by kernel_rfl) (fun _ _ _ h => h) (Or.inl ⟨by kernel_rfl, ?_⟩) s18 ?_
      rotate_left
      · rintro w' ⟨h1, h2, h3, h4, h5, h6, h7, h8⟩; go_simp; (try with_reducible rfl)
      try simp only [Act.put, List.getElem_toArray, List.getElem_cons_succ, List.getElem_cons_zero, List.setIfInBounds_toArray, List.set_cons_zero, List.set_cons_succ]
      refine wpAnyL_one (i := 30) (by kernel_rfl) rfl (fun K hK => ?_)
      go_simp
      refine (zmag_lt (R18.z 6 rfl) (R18.z 9 rfl) (by decide) (by decide) HS.out.1).mono ?_; rintro e w19 ⟨rfl, hb19⟩
      have R19 := (R18.below hb19)
      have s19 := And.intro (R19.cell 3 0 rfl rfl) (And.intro (R19.cell 3 1 rfl rfl) (And.intro (R19.cell 2 0 rfl rfl) (And.intro (R19.cell 2 1 rfl rfl) (And.intro (R19.cell 1 0 rfl rfl) (And.intro (R19.cell 1 1 rfl rfl) (And.intro (R19.cell 0 0 rfl rfl) (R19.cell 0 1 rfl rfl)))))))
      go_wp2_with fail
      refine hK.out _ _ (fun _ => s19) ?_
      clear hK K
      try simp only [Act.put, List.getElem_toArray, List.getElem_cons_succ, List.getElem_cons_zero, List.setIfInBounds_toArray, List.set_cons_zero, List.set_cons_succ]
      refine wpAnyL_take (i := 31) (v := ?_) rfl (by kernel_rfl) (by kernel_rfl) (by kernel_rfl) (by kernel_rfl) (by kernel_rfl) (fun _ _ _ h => h) (Or.inl ⟨by kernel_rfl, ?_⟩) s19 ?_
      rotate_left
      · rintro w' ⟨h1, h2, h3, h4, h5, h6, h7, h8⟩; go_simp; (try with_reducible rfl)
      try simp only [Act.put, List.getElem_toArray, List.getElem_cons_succ, List.getElem_cons_zero, List.setIfInBounds_toArray, List.set_cons_zero, List.set_cons_succ]
      refine wpAnyL_take (i := 32) (v := ?_) rfl (by kernel_rfl) (by kernel_rfl) (by kernel_rfl) (by kernel_rfl) (by kernel_rfl) (fun _ _ _ h => h) (Or.inl ⟨by kernel_rfl, ?_⟩) s19 ?_
      rotate_left
      · rintro w' ⟨h1, h2, h3, h4, h5, h6, h7, h8⟩; go_simp; (try with_reducible rfl)
      try simp only [Act.put, List.getElem_toArray, List.getElem_cons_succ, List.getElem_cons_zero, List.setIfInBounds_toArray, List.set_cons_zero, List.set_cons_succ]
      refine wpAnyL_take (i := 33) (v := ?_) rfl (by kernel_rfl) (by kernel_rfl) (by kernel_rfl) (by kernel_rfl) (by kernel_rfl) (fun _ _ _ h => h) (Or.inl ⟨by kernel_rfl, ?_⟩) s19 ?_
      rotate_left
      · rintro w' ⟨h1, h2, h3, h4, h5, h6, h7, h8⟩; go_simp; (try with_reducible rfl)
      try simp only [Act.put, List.getElem_toArray, List.getElem_cons_succ, List.getElem_cons_zero, List.setIfInBounds_toArray, List.set_cons_zero, List.set_cons_succ]
      refine wpAnyL_take (i := 34) (v := ?_) rfl (by kernel_rfl) (by kernel_rfl) (by kernel_rfl) (by kernel_rfl) (by kernel_rfl) (fun _ _ _ h => h) (Or.inl ⟨by kernel_rfl, ?_⟩) s19 ?_
      rotate_left
      · rintro w' ⟨h1, h2, h3, h4, h5, h6, h7, h8⟩; go_simp; (try with_reducible rfl)
      try simp only [Act.put, List.getElem_toArray, List.getElem_cons_succ, List.getElem_cons_zero, List.setIfInBounds_toArray, List.set_cons_zero, List.set_cons_succ]
      refine wpAnyL_done (by kernel_rfl) ?_ _
      go_wp2_with fail
      go_ret
      exact ⟨rfl, R19.bel⟩
end Go.Proofs.YticjhlbmdjijnaaDoor
