/- The law DiskPlays, walked. No condition but the reach of a slice. -/
import Derived.Test.YtkjmccicdjkccaaDDo
namespace Go.Proofs.Ytkjmccicdjkccaa
set_option linter.unusedSimpArgs false
set_option linter.unusedVariables false
open Go.RowKit

theorem wpAnyL_switch {P : Program} {ops : Array Oper} {Q : Exit → Act → World → Prop} {md : Region.Mode} {S : World → Prop} {D : List Nat} : ∀ (fuel : Nat) (listed : Array Bool) (a : Act) (w : World), wpAnyL P md ops Q D S fuel listed a w → wpAnyL P md ops Q [] (fun _ => True) fuel listed a w
  | 0, _, _, _, h => h
  | fuel + 1, _, _, _, h => ⟨h.1, fun i hi => wpOp_mono (fun a' w' h' => ⟨fun _ => trivial, wpAnyL_switch fuel _ a' w' h'.2⟩) (h.2 i hi)⟩
theorem new_len_ (k : Nat) : (DSt.new k).sure.length = k := by
  show (List.replicate k _).length = k
  simp

set_option maxRecDepth 100000 in
set_option maxHeartbeats 12800000 in
theorem diskPlays_any (n : Int) (A1 : Option Addr) (n1 c1 : Nat) (xs : List ActEl) (w : World) (hn0 : -9223372036854775808 ≤ n ∧ n ≤ 9223372036854775807) (hr1 : ARows w A1 n1 c1 xs) (hn1 : n1 ≤ maxLen) :
    Calls Try.prog 7 #[.int .i64 n, .slice A1 n1 c1] w fun e w' => e = .returned (.bool true) ∧ Below w.heap.size w w' := by
  clear hn0
  unfold maxLen at hn1
  have HR := Lib.hid hr1
  clear hr1
  by_cases hlo : n < 1
  · have q1 : decide (n < 1) = true := decide_eq_true hlo
    have HL := Lib.hid hlo
    clear hlo
    go_enter Try.func7, Try.ntmps7
    go_wp2_with fail
    refine (dawake_any w).mono ?_; rintro e w1 ⟨rfl, hb1⟩
    go_wp2_with fail
    refine (dnew_no n (Or.inl HL.out) _).mono ?_; rintro e w2 ⟨rfl, rfl⟩
    go_wp2_with fail
    go_ret
    exact ⟨rfl, hb1⟩
  have q1 : decide (n < 1) = false := decide_eq_false hlo
  by_cases hhi : 512 < n
  · have q2 : decide (512 < n) = true := decide_eq_true hhi
    have HL := Lib.hid hhi
    clear hlo hhi
    go_enter Try.func7, Try.ntmps7
    go_wp2_with fail
    refine (dawake_any w).mono ?_; rintro e w1 ⟨rfl, hb1⟩
    go_wp2_with fail
    refine (dnew_no n (Or.inr HL.out) _).mono ?_; rintro e w2 ⟨rfl, rfl⟩
    go_wp2_with fail
    go_ret
    exact ⟨rfl, hb1⟩
  have q2 : decide (512 < n) = false := decide_eq_false hhi
  obtain ⟨k, rfl⟩ : ∃ k : Nat, n = (k : Int) := ⟨n.toNat, by omega⟩
  have hk1 : 1 ≤ k := by omega
  have hk2 : k ≤ 512 := by omega
  have q1' : ¬ (k : Int) < 1 := hlo
  have q2' : ¬ 512 < (k : Int) := hhi
  clear hlo hhi
  go_enter Try.func7, Try.ntmps7
  go_wp2_with fail
  refine (dawake_any w).mono ?_; rintro e w1 ⟨rfl, hb1⟩
  go_wp2_with fail
  refine (dnew_de k hk1 hk2 _ hb1).mono ?_; rintro e w2 ⟨g, rfl, E⟩
  go_wp2_with fail
  refine (dsectors_de E).mono ?_; rintro e w3 ⟨rfl, rfl⟩
  rw [new_len_]
  have q3 : ((k : Int) != (k : Int)) = false := by simp
  go_wp2_with fail
  refine (make_te E k hk1 hk2).mono ?_; rintro e w3 ⟨h, rfl, E0⟩
  clear E hb1 q3 q1 q2 q1' q2'
  go_wp2_with fail
  go_loopw [8] (fun iv wr => ∃ (i : Nat) (s : DSt), i ≤ n1 ∧ i ≤ 60 ∧ iv = .int .i64 (i : Int) ∧ TE w wr g h s s [] ∧ s.begun ≤ i ∧ s.pend.length ≤ i) (fun iv _ => n1 - (intOf iv).toNat)
  case atStart => exact ⟨0, _, by omega, by omega, rfl, E0, Nat.zero_le _, Nat.zero_le _⟩
  case round =>
    obtain ⟨i, s, hi1, hi2, rfl, E, hbg, hpd⟩ := hrel
    clear E0
    by_cases hgo : i < n1 ∧ i < 60
    · obtain ⟨hg1, hg2⟩ := hgo
      have hlt1 : (i : Int) < (n1 : Int) := by omega
      have hlt2 : (i : Int) < 60 := by omega
      have hlt2d : decide ((i : Int) < 60) = true := decide_eq_true hlt2
      obtain ⟨ba, o, x, rfl, hx, _, h0, h1, h2, h3, h4⟩ := (HR.out.below E.bel).get hg1
      have hok := HR.out.ok x (List.mem_of_getElem? hx)
      have HOK := Lib.hid hok
      clear hx hok
      by_cases hch : 300 < x.n
      · have h300 : 300 < (x.n : Int) := by omega
        have h300d : decide (300 < (x.n : Int)) = true := decide_eq_true h300
        have HB := Lib.hid E.bel
        clear hch E
        go_wp2_with fail
        go_ret
        exact ⟨rfl, HB.out⟩
      have h300d : decide (300 < (x.n : Int)) = false := decide_eq_false (by omega)
      have h300 : ¬ 300 < (x.n : Int) := by omega
      have hcn : x.n ≤ 300 := by omega
      have HCN := Lib.hid hcn
      clear hch hcn
      go_wp2_with fail
      have E := E.drew
      refine wp_region_late [] (fun _ => True) (by kernel_rfl) ?_
      refine wpAnyL_take (i := 0) (v := ?_) rfl (by kernel_rfl) (by kernel_rfl) (by kernel_rfl) (by kernel_rfl) (by kernel_rfl) (fun _ _ _ h => h) (Or.inl ⟨by kernel_rfl, ?_⟩) trivial ?_
      rotate_left
      · rintro w0 _; go_simp; (try with_reducible rfl)
      try simp only [Act.put, List.getElem_toArray, List.getElem_cons_succ, List.getElem_cons_zero, List.setIfInBounds_toArray, List.set_cons_zero, List.set_cons_succ]
      refine wpAnyL_take (i := 1) (v := ?_) rfl (by kernel_rfl) (by kernel_rfl) (by kernel_rfl) (by kernel_rfl) (by kernel_rfl) (fun _ _ _ h => h) (Or.inl ⟨by kernel_rfl, ?_⟩) trivial ?_
      rotate_left
      · rintro w0 _; go_simp; (try with_reducible rfl)
      try simp only [Act.put, List.getElem_toArray, List.getElem_cons_succ, List.getElem_cons_zero, List.setIfInBounds_toArray, List.set_cons_zero, List.set_cons_succ]
      refine wpAnyL_take (i := 2) (v := ?_) rfl (by kernel_rfl) (by kernel_rfl) (by kernel_rfl) (by kernel_rfl) (by kernel_rfl) (fun _ _ _ h => h) (Or.inl ⟨by kernel_rfl, ?_⟩) trivial ?_
      rotate_left
      · rintro w0 _; go_simp; (try with_reducible rfl)
      try simp only [Act.put, List.getElem_toArray, List.getElem_cons_succ, List.getElem_cons_zero, List.setIfInBounds_toArray, List.set_cons_zero, List.set_cons_succ]
      refine wpAnyL_take (i := 3) (v := ?_) rfl (by kernel_rfl) (by kernel_rfl) (by kernel_rfl) (by kernel_rfl) (by kernel_rfl) (fun _ _ _ h => h) (Or.inl ⟨by kernel_rfl, ?_⟩) trivial ?_
      rotate_left
      · rintro w0 _; go_simp; (try with_reducible rfl)
      try simp only [Act.put, List.getElem_toArray, List.getElem_cons_succ, List.getElem_cons_zero, List.setIfInBounds_toArray, List.set_cons_zero, List.set_cons_succ]
      refine wpAnyL_take (i := 4) (v := ?_) rfl (by kernel_rfl) (by kernel_rfl) (by kernel_rfl) (by kernel_rfl) (by kernel_rfl) (fun _ _ _ h => h) (Or.inl ⟨by kernel_rfl, ?_⟩) trivial ?_
      rotate_left
      · rintro w0 _; go_simp; (try with_reducible rfl)
      try simp only [Act.put, List.getElem_toArray, List.getElem_cons_succ, List.getElem_cons_zero, List.setIfInBounds_toArray, List.set_cons_zero, List.set_cons_succ]
      refine wpAnyL_one (i := 5) (by kernel_rfl) rfl (fun K hK => ?_)
      go_simp
      refine hK.out _ _ (fun _ => trivial) ?_
      clear hK K
      try simp only [Act.put, List.getElem_toArray, List.getElem_cons_succ, List.getElem_cons_zero, List.setIfInBounds_toArray, List.set_cons_zero, List.set_cons_succ]
      refine wpAnyL_one (i := 6) (by kernel_rfl) rfl (fun K hK => ?_)
      go_simp
      refine (do_te E x HOK.out HCN.out (by omega) (by omega)).mono ?_; rintro e w6 ⟨rfl, s2, E6, hb6, hp6⟩
      have s0 : (fun w' : World => w'.cell? ⟨h, 4, none⟩ = some (.bool s2.down)) w6 := E6.off
      have qd : (s2.down != s2.down) = false := by simp
      go_wp2_with fail
      refine hK.out _ _ (fun _ => trivial) ?_
      clear hK K
      try simp only [Act.put, List.getElem_toArray, List.getElem_cons_succ, List.getElem_cons_zero, List.setIfInBounds_toArray, List.set_cons_zero, List.set_cons_succ]
      refine wpAnyL_one (i := 7) (by kernel_rfl) rfl (fun K hK => ?_)
      go_simp
      refine hK.out _ _ (fun _ => trivial) ?_
      clear hK K
      try simp only [Act.put, List.getElem_toArray, List.getElem_cons_succ, List.getElem_cons_zero, List.setIfInBounds_toArray, List.set_cons_zero, List.set_cons_succ]
      refine wpAnyL_one (i := 8) (by kernel_rfl) rfl (fun K hK => ?_)
      go_simp
      refine hK.out _ _ (fun _ => trivial) ?_
      clear hK K
      try simp only [Act.put, List.getElem_toArray, List.getElem_cons_succ, List.getElem_cons_zero, List.setIfInBounds_toArray, List.set_cons_zero, List.set_cons_succ]
      refine wpAnyL_take (i := 9) (v := ?_) rfl (by kernel_rfl) (by kernel_rfl) (by kernel_rfl) (by kernel_rfl) (by kernel_rfl) (fun _ _ _ h => h) (Or.inl ⟨by kernel_rfl, ?_⟩) trivial ?_
      rotate_left
      · rintro w0 _; go_simp; (try with_reducible rfl)
      try simp only [Act.put, List.getElem_toArray, List.getElem_cons_succ, List.getElem_cons_zero, List.setIfInBounds_toArray, List.set_cons_zero, List.set_cons_succ]
      refine wpAnyL_take (i := 11) (v := ?_) rfl (by kernel_rfl) (by kernel_rfl) (by kernel_rfl) (by kernel_rfl) (by kernel_rfl) (fun _ _ _ h => h) (Or.inl ⟨by kernel_rfl, ?_⟩) trivial ?_
      rotate_left
      · rintro w0 _; go_simp; (try with_reducible rfl)
      try simp only [Act.put, List.getElem_toArray, List.getElem_cons_succ, List.getElem_cons_zero, List.setIfInBounds_toArray, List.set_cons_zero, List.set_cons_succ]
      refine wpAnyL_take (i := 12) (v := ?_) rfl (by kernel_rfl) (by kernel_rfl) (by kernel_rfl) (by kernel_rfl) (by kernel_rfl) (fun _ _ _ h => h) (Or.inl ⟨by kernel_rfl, ?_⟩) trivial ?_
      rotate_left
      · rintro w0 _; go_simp; (try with_reducible rfl)
      try simp only [Act.put, List.getElem_toArray, List.getElem_cons_succ, List.getElem_cons_zero, List.setIfInBounds_toArray, List.set_cons_zero, List.set_cons_succ]
      refine wpAnyL_take (i := 13) (v := ?_) rfl (by kernel_rfl) (by kernel_rfl) (by kernel_rfl) (by kernel_rfl) (by kernel_rfl) (fun _ _ _ h => h) (Or.inl ⟨by kernel_rfl, ?_⟩) trivial ?_
      rotate_left
      · rintro w0 _; go_simp; (try with_reducible rfl)
      try simp only [Act.put, List.getElem_toArray, List.getElem_cons_succ, List.getElem_cons_zero, List.setIfInBounds_toArray, List.set_cons_zero, List.set_cons_succ]
      refine wpAnyL_switch (D := []) (S := (fun w' : World => w'.cell? ⟨h, 4, none⟩ = some (.bool s2.down))) _ _ _ _ ?_
      refine wpAnyL_take (i := 14) (v := ?_) rfl (by kernel_rfl) (by kernel_rfl) (by kernel_rfl) (by kernel_rfl) (by kernel_rfl) (fun _ _ _ h => h) (Or.inl ⟨by kernel_rfl, ?_⟩) s0 ?_
      rotate_left
      · rintro w0 h1_; go_simp; (try with_reducible rfl)
      try simp only [Act.put, List.getElem_toArray, List.getElem_cons_succ, List.getElem_cons_zero, List.setIfInBounds_toArray, List.set_cons_zero, List.set_cons_succ]
      refine wpAnyL_one (i := 10) (by kernel_rfl) rfl (fun K hK => ?_)
      go_simp
      refine (ddown_de E6.de).mono ?_; rintro e w7 ⟨rfl, rfl⟩
      go_wp2_with fail
      refine hK.out _ _ (fun _ => s0) ?_
      clear hK K
      try simp only [Act.put, List.getElem_toArray, List.getElem_cons_succ, List.getElem_cons_zero, List.setIfInBounds_toArray, List.set_cons_zero, List.set_cons_succ]
      refine wpAnyL_one (i := 15) (by kernel_rfl) rfl (fun K hK => ?_)
      go_simp
      refine hK.out _ _ (fun _ => s0) ?_
      clear hK K
      try simp only [Act.put, List.getElem_toArray, List.getElem_cons_succ, List.getElem_cons_zero, List.setIfInBounds_toArray, List.set_cons_zero, List.set_cons_succ]
      refine wpAnyL_one (i := 16) (by kernel_rfl) rfl (fun K hK => ?_)
      go_simp
      refine hK.out _ _ (fun _ => s0) ?_
      clear hK K
      try simp only [Act.put, List.getElem_toArray, List.getElem_cons_succ, List.getElem_cons_zero, List.setIfInBounds_toArray, List.set_cons_zero, List.set_cons_succ]
      refine wpAnyL_one (i := 17) (by kernel_rfl) rfl (fun K hK => ?_)
      go_simp
      refine hK.out _ _ (fun _ => s0) ?_
      clear hK K
      try simp only [Act.put, List.getElem_toArray, List.getElem_cons_succ, List.getElem_cons_zero, List.setIfInBounds_toArray, List.set_cons_zero, List.set_cons_succ]
      refine wpAnyL_take (i := 18) (v := ?_) rfl (by kernel_rfl) (by kernel_rfl) (by kernel_rfl) (by kernel_rfl) (by kernel_rfl) (fun _ _ _ h => h) (Or.inl ⟨by kernel_rfl, ?_⟩) s0 ?_
      rotate_left
      · rintro w0 h1_; go_simp; (try with_reducible rfl)
      try simp only [Act.put, List.getElem_toArray, List.getElem_cons_succ, List.getElem_cons_zero, List.setIfInBounds_toArray, List.set_cons_zero, List.set_cons_succ]
      refine wpAnyL_take (i := 20) (v := ?_) rfl (by kernel_rfl) (by kernel_rfl) (by kernel_rfl) (by kernel_rfl) (by kernel_rfl) (fun _ _ _ h => h) (Or.inl ⟨by kernel_rfl, ?_⟩) s0 ?_
      rotate_left
      · rintro w0 h1_; go_simp; (try with_reducible rfl)
      try simp only [Act.put, List.getElem_toArray, List.getElem_cons_succ, List.getElem_cons_zero, List.setIfInBounds_toArray, List.set_cons_zero, List.set_cons_succ]
      refine wpAnyL_one (i := 19) (by kernel_rfl) rfl (fun K hK => ?_)
      go_simp
      refine (dimage_te E6).mono ?_; rintro e w8 ⟨A8, n8, c8, rfl, hI8, E8⟩
      have s1 : (fun w' : World => w'.cell? ⟨h, 4, none⟩ = some (.bool s2.down)) w8 := E8.off
      go_wp2_with fail
      refine hK.out _ _ (fun _ => s1) ?_
      clear hK K
      try simp only [Act.put, List.getElem_toArray, List.getElem_cons_succ, List.getElem_cons_zero, List.setIfInBounds_toArray, List.set_cons_zero, List.set_cons_succ]
      refine wpAnyL_one (i := 21) (by kernel_rfl) rfl (fun K hK => ?_)
      go_simp
      refine (rimage_te E8 hI8).mono ?_; rintro e w9 ⟨A9, n9, c9, rfl, hI9, hI8, E9⟩
      have s3 : (fun w' : World => w'.cell? ⟨h, 4, none⟩ = some (.bool s2.down)) w9 := E9.off
      go_wp2_with fail
      refine hK.out _ _ (fun _ => s3) ?_
      clear hK K
      try simp only [Act.put, List.getElem_toArray, List.getElem_cons_succ, List.getElem_cons_zero, List.setIfInBounds_toArray, List.set_cons_zero, List.set_cons_succ]
      refine wpAnyL_one (i := 22) (by kernel_rfl) rfl (fun K hK => ?_)
      go_simp
      refine (alike_any hI8 hI9).mono ?_; rintro e w10 ⟨⟨q, rfl⟩, rfl⟩
      have E10 := E9.drewN q
      rw [show decide (s2.sure = s2.sure) = true by simp]
      have s4 : (fun w' : World => w'.cell? ⟨h, 4, none⟩ = some (.bool s2.down)) (w9.drewN q) := E10.off
      go_wp2_with fail
      refine hK.out _ _ (fun _ => s4) ?_
      clear hK K
      try simp only [Act.put, List.getElem_toArray, List.getElem_cons_succ, List.getElem_cons_zero, List.setIfInBounds_toArray, List.set_cons_zero, List.set_cons_succ]
      refine wpAnyL_one (i := 23) (by kernel_rfl) rfl (fun K hK => ?_)
      go_simp
      refine hK.out _ _ (fun _ => s4) ?_
      clear hK K
      try simp only [Act.put, List.getElem_toArray, List.getElem_cons_succ, List.getElem_cons_zero, List.setIfInBounds_toArray, List.set_cons_zero, List.set_cons_succ]
      refine wpAnyL_one (i := 24) (by kernel_rfl) rfl (fun K hK => ?_)
      go_simp
      refine hK.out _ _ (fun _ => s4) ?_
      clear hK K
      try simp only [Act.put, List.getElem_toArray, List.getElem_cons_succ, List.getElem_cons_zero, List.setIfInBounds_toArray, List.set_cons_zero, List.set_cons_succ]
      refine wpAnyL_done (by kernel_rfl) ?_ _
      have HT := Lib.hid E10
      clear E E6 E8 E9 E10 s0 s1 s3 s4 hI8 hI9 h0 h1 h2 h3 h4
      go_wp2_with fail
      go_roundw
      case rel => exact ⟨i + 1, s2, by omega, by omega, by go_num, HT.out, by omega, by omega⟩
      case measure => simp [intOf]; omega
    · have HB := Lib.hid E.bel
      clear E
      by_cases hg1 : i < n1
      · have hlt1 : (i : Int) < (n1 : Int) := by omega
        have hlt2 : ¬ (i : Int) < 60 := by omega
        have hlt2d : decide ((i : Int) < 60) = false := decide_eq_false hlt2
        clear hgo hg1
        go_wp2_with fail
        go_ret
        exact ⟨rfl, HB.out⟩
      · have hlt1 : ¬ (i : Int) < (n1 : Int) := by omega
        have hlt1d : decide ((i : Int) < (n1 : Int)) = false := decide_eq_false hlt1
        clear hgo hg1
        go_wp2_with fail
        go_ret
        exact ⟨rfl, HB.out⟩
end Go.Proofs.Ytkjmccicdjkccaa
