/- The law DiskQuiet, walked. No condition but the reach of a slice. -/
import Derived.Test.YtkjmccicdjkccaaDAwake
import Derived.Test.YtkjmccicdjkccaaDMath3
import Derived.Test.YtkjmccicdjkccaaLawI8
import Derived.Test.YtkjmccicdjkccaaAlike
import Derived.Test.YtkjmccicdjkccaaDQuietB
namespace Go.Proofs.Ytkjmccicdjkccaa
set_option linter.unusedSimpArgs false
set_option linter.unusedVariables false
open Go.RowKit

theorem bits_all : ∀ i : Nat, i < 256 → 0 ≤ bits .and .i8 ((i : Int) - 128) 7 ∧ bits .and .i8 ((i : Int) - 128) 7 ≤ 7 := by decide +kernel
theorem bits_7 {z : Int} (h0 : -128 ≤ z) (h1 : z ≤ 127) : ∃ y : Nat, y ≤ 7 ∧ bits .and .i8 z 7 = (y : Int) := by
  have h := bits_all (z + 128).toNat (by omega)
  rw [show (((z + 128).toNat : Nat) : Int) - 128 = z by omega] at h
  exact ⟨(bits .and .i8 z 7).toNat, by omega, by omega⟩
/-- The disk of DiskQuiet, before its plan. -/
def qs : DSt := ((DSt.new 8).write 3 (rowL 7 false)).1.flush.1
theorem qs_down : qs.down = false := by decide +kernel
theorem qs_len : qs.sure.length = 8 := by decide +kernel
theorem qs_pend : qs.pend = [] := by decide +kernel

set_option maxRecDepth 100000 in
set_option maxHeartbeats 6400000 in
theorem diskQuiet_any (A : Option Addr) (n c : Nat) (zs : List Int) (a : Nat) (w : World) (hr : I8s w A n c zs) (hn : n ≤ maxLen) (ha : a < 256) : Calls Try.prog 8 #[.slice A n c, .int .u8 (a : Int)] w fun e w' => e = .returned (.bool true) ∧ Below w.heap.size w w' := by
  have hn' : (n : Int) ≤ 9223372036854775807 := by unfold maxLen at hn; omega
  have HR0 := Lib.hid hr
  obtain ⟨k, hk⟩ : ∃ k, 1 + a % 3 = k := ⟨_, rfl⟩
  have ek : 1 + (a : Int) % 3 = (k : Int) := by omega
  have hk1 : 1 ≤ k := by omega
  have hk3 : k ≤ 3 := by omega
  have hkl : (k : Int) < 9223372036854775808 := by omega
  have HW0 := Lib.hid (Wk.plan k qs_down qs_len qs_pend)
  clear hr hn hk
  go_enter Try.func8, Try.ntmps8
  go_wp2_with fail
  refine (dawake_any w).mono ?_; rintro e w1 ⟨rfl, hb1⟩
  go_wp2_with fail
  refine (dnew_de 8 (by omega) (by omega) _ hb1).mono ?_; rintro e w2 ⟨g, rfl, E⟩
  go_wp2_with fail
  refine (row_any 7 (by omega) false _).mono ?_; rintro e w3 ⟨A3, n3, c3, rfl, ho, hn, hb⟩
  have E := E.below hb
  go_wp2_with fail
  refine (dwrite_de E 3 ho (by omega) (by decide) (by decide)).mono ?_; rintro e w4 ⟨rfl, E⟩
  clear ho hn hb
  go_wp2_with fail
  refine (dflush_de E (by decide)).mono ?_; rintro e w5 ⟨rfl, E⟩
  rw [show (((DSt.new 8).write 3 (rowL 7 false)).1.flush.1) = qs from rfl] at E
  go_wp2_with fail
  refine (dimage_de E).mono ?_; rintro e w6 ⟨Aw, nw, cw, rfl, E⟩
  go_wp2_with fail
  refine (dplan_de E (k : Int) hkl).mono ?_; rintro e w7 ⟨⟨_, rfl⟩, E⟩
  obtain ⟨s, hs⟩ : ∃ s, qs.plan (k : Int) = s := ⟨_, rfl⟩
  have hs1 : qs.sure = s.sure := by rw [← hs]; rfl
  have hs2 : s.down = false := by rw [← hs]; exact qs_down
  rw [hs, hs1] at E
  rw [hs] at HW0
  have hs3 := HW0.out.len
  have HS := Lib.hid (And.intro hs2 hs3)
  have hbg0 := HW0.out.le
  have hpd0 := HW0.out.pend
  clear hs hs1 hs2 hs3 hb1
  go_wp2_with fail
  go_loopw [9] (fun v wr => ∃ j : Nat, j ≤ n ∧ v = .int .i64 j ∧ DE w wr g s [] [⟨Aw, nw, cw, s.sure⟩]) (fun i _ => n - (intOf i).toNat)
  case atStart => exact ⟨0, Nat.zero_le _, rfl, E⟩
  case round =>
    obtain ⟨j, hjn, rfl, E⟩ := hrel
    by_cases hgo : j < n ∧ j < 30
    · obtain ⟨hj1, hj2⟩ := hgo
      have hlt1 : (j : Int) < (n : Int) := by omega
      have hlt2 : (j : Int) < 30 := by omega
      have hlt3 : decide ((j : Int) < 30) = true := by simp; omega
      have hlt0 : (0 : Int) ≤ (j : Int) := by omega
      obtain ⟨ba, o, z, rfl, hz0, hz1, _, hc0⟩ := HR0.out.get hj1
      have HC := Lib.hid hc0
      have h1 := cell_in E.bel hc0
      clear hc0
      have hz : IntKind.i64.wrap z = z := IntWalk.i64_in _ (by omega)
      go_wp2_with fail
      refine (dread_de E z).mono ?_; rintro e w8 ⟨A8, n8, c8, rfl, E⟩
      have E := E.keep (rs' := []) (ims' := [⟨Aw, nw, cw, s.sure⟩]) (fun _ h => by cases h) (fun _ h => h)
      go_wp2_with fail
      refine wp_region_late [7] (fun w' => w'.cell? ⟨ba, o + j, none⟩ = some (.int .i8 z)) (by kernel_rfl) ?_
      have E := E.drew
      have h1 := cell_in E.bel HC.out
      generalize World.drew _ = w20 at *
      refine wpAnyL_take (i := 0) (v := ?_) rfl (by kernel_rfl) (by kernel_rfl) (by kernel_rfl) (by kernel_rfl) (by kernel_rfl) (fun _ _ _ h => h) (Or.inl ⟨by kernel_rfl, ?_⟩) h1 ?_
      rotate_left
      · rintro w0 h1_; go_simp; (try with_reducible rfl)
      try simp only [Act.put, List.setIfInBounds_toArray, List.set_cons_zero, List.set_cons_succ]
      refine wpAnyL_take (i := 1) (v := ?_) rfl (by kernel_rfl) (by kernel_rfl) (by kernel_rfl) (by kernel_rfl) (by kernel_rfl) (fun _ _ _ h => h) (Or.inl ⟨by kernel_rfl, ?_⟩) h1 ?_
      rotate_left
      · rintro w0 h1_; go_simp; (try with_reducible rfl)
      try simp only [Act.put, List.setIfInBounds_toArray, List.set_cons_zero, List.set_cons_succ]
      refine wpAnyL_take (i := 2) (v := ?_) rfl (by kernel_rfl) (by kernel_rfl) (by kernel_rfl) (by kernel_rfl) (by kernel_rfl) (fun _ _ _ h => h) (Or.inl ⟨by kernel_rfl, ?_⟩) h1 ?_
      rotate_left
      · rintro w0 h1_; go_simp; (try with_reducible rfl)
      try simp only [Act.put, List.setIfInBounds_toArray, List.set_cons_zero, List.set_cons_succ]
      refine wpAnyL_take (i := 3) (v := ?_) rfl (by kernel_rfl) (by kernel_rfl) (by kernel_rfl) (by kernel_rfl) (by kernel_rfl) (fun _ _ _ h => h) (Or.inl ⟨by kernel_rfl, ?_⟩) h1 ?_
      rotate_left
      · rintro w0 h1_; go_simp; (try with_reducible rfl)
      try simp only [Act.put, List.setIfInBounds_toArray, List.set_cons_zero, List.set_cons_succ]
      refine wpAnyL_take (i := 4) (v := ?_) rfl (by kernel_rfl) (by kernel_rfl) (by kernel_rfl) (by kernel_rfl) (by kernel_rfl) (fun _ _ _ h => h) (Or.inl ⟨by kernel_rfl, ?_⟩) h1 ?_
      rotate_left
      · rintro w0 h1_; go_simp; (try with_reducible rfl)
      try simp only [Act.put, List.setIfInBounds_toArray, List.set_cons_zero, List.set_cons_succ]
      refine wpAnyL_take (i := 5) (v := ?_) rfl (by kernel_rfl) (by kernel_rfl) (by kernel_rfl) (by kernel_rfl) (by kernel_rfl) (fun _ _ _ h => h) (Or.inl ⟨by kernel_rfl, ?_⟩) h1 ?_
      rotate_left
      · rintro w0 h1_; go_simp; (try with_reducible rfl)
      try simp only [Act.put, List.setIfInBounds_toArray, List.set_cons_zero, List.set_cons_succ]
      refine wpAnyL_one (i := 6) (by kernel_rfl) rfl (fun K hK => ?_)
      go_simp
      refine (row_any 1 (by omega) true _).mono ?_; rintro e w21 ⟨A21, n21, c21, rfl, ho, hn21, hb21⟩
      have E := E.below hb21
      have h1 := cell_in E.bel HC.out
      go_wp2_with fail
      refine hK.out _ _ (fun _ => h1) ?_
      clear hK K
      try simp only [Act.put, List.setIfInBounds_toArray, List.set_cons_zero, List.set_cons_succ]
      refine wpAnyL_one (i := 7) (by kernel_rfl) rfl (fun K hK => ?_)
      go_simp
      refine (dwrite_de E z ho (by omega) (by omega) (by omega)).mono ?_; rintro e w22 ⟨rfl, E⟩
      rw [DSt.write_long HS.out.1 z (by rw [rowL_bad]; decide)] at E ⊢
      clear ho hn21 hb21 h1
      go_wp2_with fail
      refine hK.out _ _ (fun h => absurd (by simp) h) ?_
      clear hK K
      try simp only [Act.put, List.setIfInBounds_toArray, List.set_cons_zero, List.set_cons_succ]
      refine wpAnyL_done (by kernel_rfl) ?_ _
      have h1 := cell_in E.bel HC.out
      obtain ⟨y, hy7, hyb⟩ := bits_7 hz0 hz1
      have hy1 : IntKind.i64.wrap (y : Int) = (y : Int) := IntWalk.i64_in _ (by omega)
      have hy2 : IntKind.i64.wrap (8 + (y : Int)) = 8 + (y : Int) := IntWalk.i64_in _ (by omega)
      go_wp2_with fail
      refine wp_region_late [] (fun w' => w'.cell? ⟨ba, o + j, none⟩ = some (.int .i8 z)) (by kernel_rfl) ?_
      have E := E.drew
      have h1 := cell_in E.bel HC.out
      generalize World.drew _ = w30 at *
      refine wpAnyL_take (i := 0) (v := ?_) rfl (by kernel_rfl) (by kernel_rfl) (by kernel_rfl) (by kernel_rfl) (by kernel_rfl) (fun _ _ _ h => h) (Or.inl ⟨by kernel_rfl, ?_⟩) h1 ?_
      rotate_left
      · rintro w0 h1_; go_simp; (try with_reducible rfl)
      try simp only [Act.put, List.setIfInBounds_toArray, List.set_cons_zero, List.set_cons_succ]
      refine wpAnyL_take (i := 1) (v := ?_) rfl (by kernel_rfl) (by kernel_rfl) (by kernel_rfl) (by kernel_rfl) (by kernel_rfl) (fun _ _ _ h => h) (Or.inl ⟨by kernel_rfl, ?_⟩) h1 ?_
      rotate_left
      · rintro w0 h1_; go_simp; (try with_reducible rfl)
      try simp only [Act.put, List.setIfInBounds_toArray, List.set_cons_zero, List.set_cons_succ]
      refine wpAnyL_take (i := 2) (v := ?_) rfl (by kernel_rfl) (by kernel_rfl) (by kernel_rfl) (by kernel_rfl) (by kernel_rfl) (fun _ _ _ h => h) (Or.inl ⟨by kernel_rfl, ?_⟩) h1 ?_
      rotate_left
      · rintro w0 h1_; go_simp; (try with_reducible rfl)
      try simp only [Act.put, List.setIfInBounds_toArray, List.set_cons_zero, List.set_cons_succ]
      refine wpAnyL_take (i := 3) (v := ?_) rfl (by kernel_rfl) (by kernel_rfl) (by kernel_rfl) (by kernel_rfl) (by kernel_rfl) (fun _ _ _ h => h) (Or.inl ⟨by kernel_rfl, ?_⟩) h1 ?_
      rotate_left
      · rintro w0 h1_; go_simp; (try with_reducible rfl)
      try simp only [Act.put, List.setIfInBounds_toArray, List.set_cons_zero, List.set_cons_succ]
      refine wpAnyL_take (i := 4) (v := ?_) rfl (by kernel_rfl) (by kernel_rfl) (by kernel_rfl) (by kernel_rfl) (by kernel_rfl) (fun _ _ _ h => h) (Or.inl ⟨by kernel_rfl, ?_⟩) h1 ?_
      rotate_left
      · rintro w0 h1_; go_simp; (try with_reducible rfl)
      try simp only [Act.put, List.setIfInBounds_toArray, List.set_cons_zero, List.set_cons_succ]
      refine wpAnyL_take (i := 5) (v := ?_) rfl (by kernel_rfl) (by kernel_rfl) (by kernel_rfl) (by kernel_rfl) (by kernel_rfl) (fun _ _ _ h => h) (Or.inl ⟨by kernel_rfl, ?_⟩) h1 ?_
      rotate_left
      · rintro w0 h1_; go_simp; (try with_reducible rfl)
      try simp only [Act.put, List.setIfInBounds_toArray, List.set_cons_zero, List.set_cons_succ]
      refine wpAnyL_take (i := 6) (v := ?_) rfl (by kernel_rfl) (by kernel_rfl) (by kernel_rfl) (by kernel_rfl) (by kernel_rfl) (fun _ _ _ h => h) (Or.inl ⟨by kernel_rfl, ?_⟩) h1 ?_
      rotate_left
      · rintro w0 h1_; go_simp; (try with_reducible rfl)
      try simp only [Act.put, List.setIfInBounds_toArray, List.set_cons_zero, List.set_cons_succ]
      refine wpAnyL_take (i := 7) (v := ?_) rfl (by kernel_rfl) (by kernel_rfl) (by kernel_rfl) (by kernel_rfl) (by kernel_rfl) (fun _ _ _ h => h) (Or.inl ⟨by kernel_rfl, ?_⟩) h1 ?_
      rotate_left
      · rintro w0 h1_; go_simp; (try with_reducible rfl)
      try simp only [Act.put, List.setIfInBounds_toArray, List.set_cons_zero, List.set_cons_succ]
      refine wpAnyL_one (i := 8) (by kernel_rfl) rfl (fun K hK => ?_)
      go_simp
      refine (row_any 1 (by omega) false _).mono ?_; rintro e w31 ⟨A31, n31, c31, rfl, ho, hn31, hb31⟩
      have E := E.below hb31
      have h1 := cell_in E.bel HC.out
      go_wp2_with fail
      refine hK.out _ _ (fun _ => h1) ?_
      clear hK K
      try simp only [Act.put, List.setIfInBounds_toArray, List.set_cons_zero, List.set_cons_succ]
      refine wpAnyL_one (i := 9) (by kernel_rfl) rfl (fun K hK => ?_)
      go_simp
      refine (dwrite_de E (8 + (y : Int)) ho (by omega) (by omega) (by omega)).mono ?_; rintro e w32 ⟨rfl, E⟩
      rw [DSt.write_far HS.out.1 (i := 8 + (y : Int)) (by rw [HS.out.2]; omega)] at E ⊢
      have h1 := cell_in E.bel HC.out
      clear ho hn31 hb31
      go_wp2_with fail
      refine hK.out _ _ (fun _ => h1) ?_
      clear hK K
      try simp only [Act.put, List.setIfInBounds_toArray, List.set_cons_zero, List.set_cons_succ]
      refine wpAnyL_one (i := 10) (by kernel_rfl) rfl (fun K hK => ?_)
      go_simp
      refine hK.out _ _ (fun _ => h1) ?_
      clear hK K
      try simp only [Act.put, List.setIfInBounds_toArray, List.set_cons_zero, List.set_cons_succ]
      refine wpAnyL_one (i := 11) (by kernel_rfl) rfl (fun K hK => ?_)
      go_simp
      refine hK.out _ _ (fun _ => h1) ?_
      clear hK K
      try simp only [Act.put, List.setIfInBounds_toArray, List.set_cons_zero, List.set_cons_succ]
      refine wpAnyL_take (i := 12) (v := ?_) rfl (by kernel_rfl) (by kernel_rfl) (by kernel_rfl) (by kernel_rfl) (by kernel_rfl) (fun _ _ _ h => h) (Or.inl ⟨by kernel_rfl, ?_⟩) h1 ?_
      rotate_left
      · rintro w0 h1_; go_simp; (try with_reducible rfl)
      try simp only [Act.put, List.setIfInBounds_toArray, List.set_cons_zero, List.set_cons_succ]
      refine wpAnyL_take (i := 14) (v := ?_) rfl (by kernel_rfl) (by kernel_rfl) (by kernel_rfl) (by kernel_rfl) (by kernel_rfl) (fun _ _ _ h => h) (Or.inl ⟨by kernel_rfl, ?_⟩) h1 ?_
      rotate_left
      · rintro w0 h1_; go_simp; (try with_reducible rfl)
      try simp only [Act.put, List.setIfInBounds_toArray, List.set_cons_zero, List.set_cons_succ]
      refine wpAnyL_one (i := 13) (by kernel_rfl) rfl (fun K hK => ?_)
      go_simp
      refine (dimage_de E).mono ?_; rintro e w33 ⟨A33, n33, c33, rfl, E⟩
      have h1 := cell_in E.bel HC.out
      go_wp2_with fail
      refine hK.out _ _ (fun _ => h1) ?_
      clear hK K
      try simp only [Act.put, List.setIfInBounds_toArray, List.set_cons_zero, List.set_cons_succ]
      refine wpAnyL_one (i := 15) (by kernel_rfl) rfl (fun K hK => ?_)
      go_simp
      refine (alike_any (E.img 0 rfl) (E.img 1 rfl)).mono ?_; rintro e w34 ⟨⟨q34, rfl⟩, rfl⟩
      have E := (E.drewN q34).keep (rs' := []) (ims' := [⟨Aw, nw, cw, s.sure⟩]) (fun _ h => by cases h) (fun _ h => by simp only [List.mem_cons, List.not_mem_nil, or_false] at h ⊢; exact .inr h)
      rw [decide_eq_true (rfl : s.sure = s.sure)]
      have h1 := cell_in E.bel HC.out
      go_wp2_with fail
      refine hK.out _ _ (fun _ => h1) ?_
      clear hK K
      try simp only [Act.put, List.setIfInBounds_toArray, List.set_cons_zero, List.set_cons_succ]
      refine wpAnyL_one (i := 16) (by kernel_rfl) rfl (fun K hK => ?_)
      go_simp
      refine hK.out _ _ (fun _ => h1) ?_
      clear hK K
      try simp only [Act.put, List.setIfInBounds_toArray, List.set_cons_zero, List.set_cons_succ]
      refine wpAnyL_one (i := 17) (by kernel_rfl) rfl (fun K hK => ?_)
      go_simp
      refine hK.out _ _ (fun _ => h1) ?_
      clear hK K
      try simp only [Act.put, List.setIfInBounds_toArray, List.set_cons_zero, List.set_cons_succ]
      refine wpAnyL_done (by kernel_rfl) ?_ _
      clear h1
      go_wp2_with fail
      exact ⟨⟨j + 1, by omega, by go_num, E⟩, by simp [intOf]; omega⟩
    · by_cases hj1 : j < n
      · have hlt1 : (j : Int) < (n : Int) := by omega
        have hlt2 : ¬ (j : Int) < 30 := by omega
        have hlt3 : decide ((j : Int) < 30) = false := by simp; omega
        clear hgo
        go_wp2_with fail
        go_loopw [10] (fun v wr => ∃ (i q : Nat) (s2 : DSt), i = q + 1 ∧ q ≤ 3 ∧ v = .int .i64 i ∧ DE w wr g s2 [] [⟨Aw, nw, cw, s.sure⟩] ∧ Wk s2 8 k q ∧ s2.sure = s.sure) (fun i _ => 4 - (intOf i).toNat)
        case atStart => exact ⟨1, 0, s, rfl, Nat.zero_le _, rfl, E, HW0.out, rfl⟩
        case round =>
          obtain ⟨i, q, s2, hiq, hq3, rfl, E2, hW2, hsu⟩ := hrel
          clear E
          by_cases hq : q < 3
          · have hle : (i : Int) ≤ 3 := by omega
            have hs := hW2.step (show 0 < 8 by omega) (rowL_len 2)
            rw [← hiq] at hs
            have hbg := hW2.le
            have hpd := hW2.pend
            have HS2 := Lib.hid (And.intro hs (And.intro hiq ((DSt.write_sure ((0 : Nat) : Int) (rowL 2 false)).trans hsu)))
            clear hs hW2 hiq hsu
            go_wp2_with fail
            refine (row_any 2 (by omega) false _).mono ?_; rintro e w42 ⟨A42, n42, c42, rfl, ho, hn42, hb42⟩
            have E2 := E2.below hb42
            go_wp2_with fail
            refine (dwrite_de E2 ((0 : Nat) : Int) ho (by omega) (by omega) (by omega)).mono ?_; rintro e w43 ⟨rfl, E2⟩
            clear ho hn42 hb42
            generalize hcd : (s2.write ((0 : Nat) : Int) (rowL 2 false)).2 = cd at *
            generalize hs1 : (s2.write ((0 : Nat) : Int) (rowL 2 false)).1 = s3 at *
            clear hcd hs1
            by_cases hik : i < k
            · obtain rfl : cd = 0 := by have := HS2.out.1.2; rw [if_pos (.inr hik)] at this; exact this
              have hik' : (i : Int) < (k : Int) := by omega
              clear hik
              go_wp2_with fail
              exact ⟨⟨i + 1, i, s3, rfl, by have := HS2.out.2.1; omega, by go_num, E2, HS2.out.1.1, HS2.out.2.2⟩, by simp [intOf]; omega⟩
            · obtain rfl : cd = 4 := by have := HS2.out.1.2; rw [if_neg (by omega)] at this; exact this
              have hik' : ¬ (i : Int) < (k : Int) := by omega
              have hik2 : decide (i < k) = false := decide_eq_false hik
              clear hik
              go_wp2_with fail
              exact ⟨⟨i + 1, i, s3, rfl, by have := HS2.out.2.1; omega, by go_num, E2, HS2.out.1.1, HS2.out.2.2⟩, by simp [intOf]; omega⟩
          · obtain rfl : q = 3 := by omega
            have hgt : ¬ (i : Int) ≤ 3 := by omega
            have hdn := hW2.down.trans (decide_eq_true ⟨by omega, by omega⟩)
            have HD := Lib.hid (And.intro hdn hsu)
            clear hdn hsu hW2 hiq
            go_wp2_with fail
            refine (ddown_de E2).mono ?_; rintro e w44 ⟨rfl, rfl⟩
            rw [HD.out.1]
            go_wp2_with fail
            refine (dimage_de E2).mono ?_; rintro e w45 ⟨A45, n45, c45, rfl, E3⟩
            rw [HD.out.2] at E3
            go_wp2_with fail
            refine (alike_any (E3.img 0 rfl) (E3.img 1 rfl)).mono ?_; rintro e w46 ⟨⟨q46, rfl⟩, rfl⟩
            rw [decide_eq_true (rfl : s.sure = s.sure)]
            go_wp2_with fail
            go_ret
            exact ⟨rfl, (E3.drewN q46).bel⟩
      · obtain rfl : j = n := by omega
        clear hgo
        go_wp2_with fail
        go_loopw [10] (fun v wr => ∃ (i q : Nat) (s2 : DSt), i = q + 1 ∧ q ≤ 3 ∧ v = .int .i64 i ∧ DE w wr g s2 [] [⟨Aw, nw, cw, s.sure⟩] ∧ Wk s2 8 k q ∧ s2.sure = s.sure) (fun i _ => 4 - (intOf i).toNat)
        case atStart => exact ⟨1, 0, s, rfl, Nat.zero_le _, rfl, E, HW0.out, rfl⟩
        case round =>
          obtain ⟨i, q, s2, hiq, hq3, rfl, E2, hW2, hsu⟩ := hrel
          clear E
          by_cases hq : q < 3
          · have hle : (i : Int) ≤ 3 := by omega
            have hs := hW2.step (show 0 < 8 by omega) (rowL_len 2)
            rw [← hiq] at hs
            have hbg := hW2.le
            have hpd := hW2.pend
            have HS2 := Lib.hid (And.intro hs (And.intro hiq ((DSt.write_sure ((0 : Nat) : Int) (rowL 2 false)).trans hsu)))
            clear hs hW2 hiq hsu
            go_wp2_with fail
            refine (row_any 2 (by omega) false _).mono ?_; rintro e w42 ⟨A42, n42, c42, rfl, ho, hn42, hb42⟩
            have E2 := E2.below hb42
            go_wp2_with fail
            refine (dwrite_de E2 ((0 : Nat) : Int) ho (by omega) (by omega) (by omega)).mono ?_; rintro e w43 ⟨rfl, E2⟩
            clear ho hn42 hb42
            generalize hcd : (s2.write ((0 : Nat) : Int) (rowL 2 false)).2 = cd at *
            generalize hs1 : (s2.write ((0 : Nat) : Int) (rowL 2 false)).1 = s3 at *
            clear hcd hs1
            by_cases hik : i < k
            · obtain rfl : cd = 0 := by have := HS2.out.1.2; rw [if_pos (.inr hik)] at this; exact this
              have hik' : (i : Int) < (k : Int) := by omega
              clear hik
              go_wp2_with fail
              exact ⟨⟨i + 1, i, s3, rfl, by have := HS2.out.2.1; omega, by go_num, E2, HS2.out.1.1, HS2.out.2.2⟩, by simp [intOf]; omega⟩
            · obtain rfl : cd = 4 := by have := HS2.out.1.2; rw [if_neg (by omega)] at this; exact this
              have hik' : ¬ (i : Int) < (k : Int) := by omega
              have hik2 : decide (i < k) = false := decide_eq_false hik
              clear hik
              go_wp2_with fail
              exact ⟨⟨i + 1, i, s3, rfl, by have := HS2.out.2.1; omega, by go_num, E2, HS2.out.1.1, HS2.out.2.2⟩, by simp [intOf]; omega⟩
          · obtain rfl : q = 3 := by omega
            have hgt : ¬ (i : Int) ≤ 3 := by omega
            have hdn := hW2.down.trans (decide_eq_true ⟨by omega, by omega⟩)
            have HD := Lib.hid (And.intro hdn hsu)
            clear hdn hsu hW2 hiq
            go_wp2_with fail
            refine (ddown_de E2).mono ?_; rintro e w44 ⟨rfl, rfl⟩
            rw [HD.out.1]
            go_wp2_with fail
            refine (dimage_de E2).mono ?_; rintro e w45 ⟨A45, n45, c45, rfl, E3⟩
            rw [HD.out.2] at E3
            go_wp2_with fail
            refine (alike_any (E3.img 0 rfl) (E3.img 1 rfl)).mono ?_; rintro e w46 ⟨⟨q46, rfl⟩, rfl⟩
            rw [decide_eq_true (rfl : s.sure = s.sure)]
            go_wp2_with fail
            go_ret
            exact ⟨rfl, (E3.drewN q46).bel⟩
end Go.Proofs.Ytkjmccicdjkccaa
