/- The contract of ratio.Parse. No condition but the reach of a string. No condition but the reach of a slice. -/
import Derived.Test.YticjhlbmdjijnaaGreatDoorHQP
import Derived.Test.YticjhlbmdjijnaaGreatDoorGP
namespace Go.Proofs.YticjhlbmdjijnaaGreatDoor
set_option linter.unusedSimpArgs false
set_option linter.unusedVariables false
open Go.RowKit

theorem cutH_len (c : Nat) (l : List Nat) : (cutH c l).length ≤ l.length := (List.takeWhile_sublist _).length_le
theorem zpv_few {l : List Nat} (hn : l.length ≤ 1000) : (zpv l).natAbs < 4294967296 ^ 128 := by
  by_cases h : ZReads l
  · rw [zpv_yes h]
    have hb := bod_len l
    have e : (zdec l).natAbs = dec (bod l) := by unfold zdec; rw [zv_abs]
    rw [e]
    exact dec_few h.1.digs (by omega)
  · rw [zpv_no h]; decide
theorem qf_no {h t : List Nat} (hn : ¬ (ZReads h ∧ Reads t ∧ 0 < dec t)) : qfok h t = false := by
  unfold qfok zok
  rw [← Bool.decide_and, ← Bool.decide_and]
  exact decide_eq_false hn
theorem qf_yes {h t : List Nat} (h1 : ZReads h) (h2 : Reads t) (h3 : 0 < dec t) : qfok h t = true := by
  unfold qfok
  rw [zok_yes h1, decide_eq_true h2, decide_eq_true h3]
  rfl

set_option maxRecDepth 100000 in
set_option maxHeartbeats 6400000 in
theorem qparse (l : List Nat) (hl : ∀ x ∈ l, x < 256) (w : World) (hlen : l.length ≤ 9223372036854775807) : Calls Tryz.prog 26 #[.string (str l)] w fun e w' => ∃ b3 A3 n3 b4 A4 n4, e = .returned (.tuple #[.agg #[.bool b3, .slice A3 n3 n3, .bool b4, .slice A4 n4 n4], .bool (qpok l)]) ∧ ZIs w' b3 A3 n3 n3 ((qpv l).num) 128 true ∧ ZIs w' b4 A4 n4 n4 (((qpv l).den : Nat) : Int) 128 true ∧ Below w.heap.size w w' := by
  obtain ⟨n, hn⟩ : ∃ n, l.length = n := ⟨_, rfl⟩
  have hS : (str l).size = n := by rw [str_size, hn]
  have R0 := (Env.nil_ w).alloc 26 #[.bool false, .slice none 0 0, .bool false, .slice none 0 0] (g := w.heap.size) rfl rfl
  rw [hn] at hlen
  have hn63 : (n : Int) ≤ 9223372036854775807 := by omega
  by_cases h1000 : 1000 < n
  · have HQ := Lib.hid (qp_long (l := l) (by omega))
    have hlt : (1000 : Int) < (n : Int) := by omega
    generalize str l = S at *
    clear hl hn h1000
    go_enter Tryz.func26, Tryz.ntmps26
    go_wp2_with fail
    refine (qzero _).mono ?_; rintro e w1 ⟨b_p, A_p, n_p, b_q, A_q, n_q, rfl, z_p, z_q, hb1⟩
    have R1 := (((R0.below hb1).add z_p).add z_q)
    have zr0 := R1.cell 0 0 rfl rfl
    have zr1 := R1.cell 0 1 rfl rfl
    have zr2 := R1.cell 0 2 rfl rfl
    have zr3 := R1.cell 0 3 rfl rfl
    have zfr0 := R1.frozen 0 0 rfl
    have zfr1 := R1.frozen 0 1 rfl
    have zfr2 := R1.frozen 0 2 rfl
    have zfr3 := R1.frozen 0 3 rfl
    go_wp2_with fail
    have R9_ := R1.st4 0 (.bool b_p) (.slice A_p n_p n_p) (.bool b_q) (.slice A_q n_q n_q) rfl rfl rfl rfl rfl
    refine bodyPost_ret (results_row_tmp rfl _ _ (w.heap.size) 26 #[.bool b_p, .slice A_p n_p n_p, .bool b_q, .slice A_q n_q n_q] (0, 0) _ rfl (R9_.b 0 rfl).is Tryz.underlying26 rfl (by kernel_rfl)) rfl ?_
    exact ⟨_, _, _, _, _, _, ret_vb HQ.out.1.symm, (by rw [HQ.out.2]; exact (R9_.z 1 rfl).mono (by omega)), (by rw [HQ.out.2]; exact (R9_.z 0 rfl).mono (by omega)), R9_.bel⟩
  have hle : ¬ (1000 : Int) < (n : Int) := by omega
  have hl1 : l.length ≤ 1000 := by omega
  have hl2 : ¬ 1000 < l.length := by omega
  have c1 := fun w0 => scut 46 (by omega) l hl (by omega) w0
  have c2 := fun w0 => scut 47 (by omega) l hl (by omega) w0
  have hbp := fun w0 => zparse (cutH 47 l) (cutH_lt hl) w0 (by have := cutH_len 47 l; omega)
  have HF := Lib.hid (zpv_few (l := cutH 47 l) (by have := cutH_len 47 l; omega))
  by_cases hp : 46 ∈ l
  · have hq := qp_point hl2 hp
    have hcl := cut_len hp
    have d1 := fun w0 => qdecimal (cutH 46 l) (cutT 46 l) (cutH_lt hl) (cutT_lt hl) (by omega) w0
    rw [← hq.1, ← hq.2] at d1
    rw [decide_eq_true hp] at c1
    generalize str l = S at *
    generalize str (cutH 46 l) = S1 at *
    generalize str (cutT 46 l) = S2 at *
    have HL := Lib.hid hl
    clear hl hn h1000 hp hq hcl c2 hbp HF hl1 hl2 hlen
    go_enter Tryz.func26, Tryz.ntmps26
    go_wp2_with fail
    refine (c1 _).mono ?_; rintro e w1 ⟨rfl, hb1⟩
    have R1 := (R0.below hb1)
    go_wp2_with fail
    refine (d1 _).mono ?_; rintro e w2 ⟨b_p, A_p, n_p, b_q, A_q, n_q, rfl, z_p, z_q, hb2⟩
    have R2 := (((R1.below hb2).add z_p).add z_q)
    have zr0 := R2.cell 0 0 rfl rfl
    have zr1 := R2.cell 0 1 rfl rfl
    have zr2 := R2.cell 0 2 rfl rfl
    have zr3 := R2.cell 0 3 rfl rfl
    have zfr0 := R2.frozen 0 0 rfl
    have zfr1 := R2.frozen 0 1 rfl
    have zfr2 := R2.frozen 0 2 rfl
    have zfr3 := R2.frozen 0 3 rfl
    go_wp2_with fail
    have R9_ := R2.st4 0 (.bool b_p) (.slice A_p n_p n_p) (.bool b_q) (.slice A_q n_q n_q) rfl rfl rfl rfl rfl
    refine bodyPost_ret (results_row_tmp rfl _ _ (w.heap.size) 26 #[.bool b_p, .slice A_p n_p n_p, .bool b_q, .slice A_q n_q n_q] (0, 0) _ rfl (R9_.b 0 rfl).is Tryz.underlying26 rfl (by kernel_rfl)) rfl ?_
    exact ⟨_, _, _, _, _, _, rfl, (R9_.z 1 rfl), (R9_.z 0 rfl), R9_.bel⟩
  rw [decide_eq_false hp] at c1
  rw [cutH_none hp, cutT_none hp] at c1
  by_cases hs : 47 ∈ l
  · have h47 := cut_len hs
    rw [decide_eq_true hs] at c2
    by_cases hz : ZReads (cutH 47 l)
    · rw [zok_yes hz] at hbp
      by_cases hr : Reads (cutT 47 l)
      · have d1 := fun w0 => nparse_z (cutT 47 l) (cutT_lt hl) w0 hr (by omega)
        by_cases h0 : dec (cutT 47 l) = 0
        · have hq := qp_slash hl2 hp hs
          have hf := qf_no (h := cutH 47 l) (t := cutT 47 l) (fun e => by have := e.2.2; omega)
          rw [hf] at hq
          have HQ := Lib.hid (show qpok l = false ∧ qpv l = 0 from ⟨hq.1, hq.2⟩)
          have H0 := Lib.hid h0
          generalize str l = S at *
          generalize str (cutH 47 l) = S1 at *
          generalize str (cutT 47 l) = S2 at *
          clear hl hn h1000 hp hs hq hf h0 hz hr hl1 hl2 hlen h47
          go_enter Tryz.func26, Tryz.ntmps26
          go_wp2_with fail
          refine (c1 _).mono ?_; rintro e w1 ⟨rfl, hb1⟩
          have R1 := (R0.below hb1)
          go_wp2_with fail
          refine (c2 _).mono ?_; rintro e w2 ⟨rfl, hb2⟩
          have R2 := (R1.below hb2)
          go_wp2_with fail
          refine (hbp _).mono ?_; rintro e w3 ⟨b_x, A_x, n_x, rfl, z_x, hb3⟩
          have R3 := (((R2.below hb3).add z_x).alloc 24 #[.bool b_x, .slice A_x n_x n_x] (g := w3.heap.size) rfl rfl)
          go_wp2_with fail
          refine (d1 _).mono ?_; rintro e w4 ⟨A_d, n_d, rfl, z_d, hb4⟩
          have R4 := R3.below hb4
          obtain rfl : n_d = 0 := z_d.zero_iff.2 (by rw [H0.out]; rfl)
          go_wp2_with fail
          refine (qzero _).mono ?_; rintro e w5 ⟨b_p, A_p, n_p, b_q, A_q, n_q, rfl, z_p, z_q, hb5⟩
          have R5 := (((R4.below hb5).add z_p).add z_q)
          have zr0 := R5.cell 1 0 rfl rfl
          have zr1 := R5.cell 1 1 rfl rfl
          have zr2 := R5.cell 1 2 rfl rfl
          have zr3 := R5.cell 1 3 rfl rfl
          have zfr0 := R5.frozen 1 0 rfl
          have zfr1 := R5.frozen 1 1 rfl
          have zfr2 := R5.frozen 1 2 rfl
          have zfr3 := R5.frozen 1 3 rfl
          go_wp2_with fail
          have R9_ := R5.st4 1 (.bool b_p) (.slice A_p n_p n_p) (.bool b_q) (.slice A_q n_q n_q) rfl rfl rfl rfl rfl
          refine bodyPost_ret (results_row_tmp rfl _ _ (w.heap.size) 26 #[.bool b_p, .slice A_p n_p n_p, .bool b_q, .slice A_q n_q n_q] (0, 0) _ rfl (R9_.b 1 rfl).is Tryz.underlying26 rfl (by kernel_rfl)) rfl ?_
          exact ⟨_, _, _, _, _, _, ret_vb HQ.out.1.symm, (by rw [HQ.out.2]; exact (R9_.z 1 rfl).mono (by omega)), (by rw [HQ.out.2]; exact (R9_.z 0 rfl).mono (by omega)), R9_.bel⟩
        · have hq := qp_slash hl2 hp hs
          have hf := qf_yes hz hr (Nat.pos_of_ne_zero h0)
          rw [hf, if_pos rfl, qv_pos (by omega)] at hq
          have HQ := Lib.hid hq
          have hpos : (0 : Int) < ((dec (cutT 47 l) : Nat) : Int) := by omega
          have HB := Lib.hid (And.intro hpos (And.intro (qnum_lt hpos HF.out) (qden_lt (x := zpv (cutH 47 l)) hpos (by rw [Int.natAbs_natCast]; exact dec_few hr.digs (by omega)))))
          generalize str l = S at *
          generalize str (cutH 47 l) = S1 at *
          generalize str (cutT 47 l) = S2 at *
          clear hl hn h1000 hp hs hq hf h0 hz hr hl1 hl2 hlen h47 hpos
          go_enter Tryz.func26, Tryz.ntmps26
          go_wp2_with fail
          refine (c1 _).mono ?_; rintro e w1 ⟨rfl, hb1⟩
          have R1 := (R0.below hb1)
          go_wp2_with fail
          refine (c2 _).mono ?_; rintro e w2 ⟨rfl, hb2⟩
          have R2 := (R1.below hb2)
          go_wp2_with fail
          refine (hbp _).mono ?_; rintro e w3 ⟨b_x, A_x, n_x, rfl, z_x, hb3⟩
          have R3 := (((R2.below hb3).add z_x).alloc 24 #[.bool b_x, .slice A_x n_x n_x] (g := w3.heap.size) rfl rfl)
          go_wp2_with fail
          refine (d1 _).mono ?_; rintro e w4 ⟨A_d, n_d, rfl, z_d, hb4⟩
          have R4 := (R3.below hb4).add z_d
          have hd0 : n_d ≠ 0 := fun e => by have := z_d.zero_iff.1 e; have := HB.out.1; omega
          have hdb : ((n_d : Int) == 0) = false := by simpa using hd0
          clear hd0
          have k5num0 := R4.cell 0 0 rfl rfl
          have k5num1 := R4.cell 0 1 rfl rfl
          go_wp2_with fail
          clear k5num0 k5num1
          refine (qby (R4.z 1 rfl) (R4.z 0 rfl) (by omega) (by omega) (Int.ne_of_gt HB.out.1) rfl).mono ?_; rintro e w5 ⟨b_p, A_p, n_p, b_q, A_q, n_q, rfl, z_p, z_q, hb5⟩
          have R5 := (((R4.below hb5).add z_p).add z_q)
          have zr0 := R5.cell 1 0 rfl rfl
          have zr1 := R5.cell 1 1 rfl rfl
          have zr2 := R5.cell 1 2 rfl rfl
          have zr3 := R5.cell 1 3 rfl rfl
          have zfr0 := R5.frozen 1 0 rfl
          have zfr1 := R5.frozen 1 1 rfl
          have zfr2 := R5.frozen 1 2 rfl
          have zfr3 := R5.frozen 1 3 rfl
          go_wp2_with fail
          have R9_ := R5.st4 1 (.bool b_p) (.slice A_p n_p n_p) (.bool b_q) (.slice A_q n_q n_q) rfl rfl rfl rfl rfl
          refine bodyPost_ret (results_row_tmp rfl _ _ (w.heap.size) 26 #[.bool b_p, .slice A_p n_p n_p, .bool b_q, .slice A_q n_q n_q] (0, 0) _ rfl (R9_.b 1 rfl).is Tryz.underlying26 rfl (by kernel_rfl)) rfl ?_
          exact ⟨_, _, _, _, _, _, ret_vb HQ.out.1.symm, (by rw [HQ.out.2]; exact (R9_.z 1 rfl).tight HB.out.2.1), (by rw [HQ.out.2]; exact (R9_.z 0 rfl).tight HB.out.2.2), R9_.bel⟩
      · have d1 := fun w0 => parse_bad (cutT 47 l) (cutT_lt hl) w0 (by omega) hr
        have hq := qp_slash hl2 hp hs
        have hf := qf_no (h := cutH 47 l) (t := cutT 47 l) (fun e => hr e.2.1)
        rw [hf] at hq
        have HQ := Lib.hid (show qpok l = false ∧ qpv l = 0 from ⟨hq.1, hq.2⟩)
        generalize str l = S at *
        generalize str (cutH 47 l) = S1 at *
        generalize str (cutT 47 l) = S2 at *
        clear hl hn h1000 hp hs hq hf hz hr hl1 hl2 hlen h47
        go_enter Tryz.func26, Tryz.ntmps26
        go_wp2_with fail
        refine (c1 _).mono ?_; rintro e w1 ⟨rfl, hb1⟩
        have R1 := (R0.below hb1)
        go_wp2_with fail
        refine (c2 _).mono ?_; rintro e w2 ⟨rfl, hb2⟩
        have R2 := (R1.below hb2)
        go_wp2_with fail
        refine (hbp _).mono ?_; rintro e w3 ⟨b_x, A_x, n_x, rfl, z_x, hb3⟩
        have R3 := (((R2.below hb3).add z_x).alloc 24 #[.bool b_x, .slice A_x n_x n_x] (g := w3.heap.size) rfl rfl)
        go_wp2_with fail
        refine (d1 _).mono ?_; rintro e w4 ⟨rfl, hb4⟩
        have R4 := (R3.below hb4)
        go_wp2_with fail
        refine (qzero _).mono ?_; rintro e w5 ⟨b_p, A_p, n_p, b_q, A_q, n_q, rfl, z_p, z_q, hb5⟩
        have R5 := (((R4.below hb5).add z_p).add z_q)
        have zr0 := R5.cell 1 0 rfl rfl
        have zr1 := R5.cell 1 1 rfl rfl
        have zr2 := R5.cell 1 2 rfl rfl
        have zr3 := R5.cell 1 3 rfl rfl
        have zfr0 := R5.frozen 1 0 rfl
        have zfr1 := R5.frozen 1 1 rfl
        have zfr2 := R5.frozen 1 2 rfl
        have zfr3 := R5.frozen 1 3 rfl
        go_wp2_with fail
        have R9_ := R5.st4 1 (.bool b_p) (.slice A_p n_p n_p) (.bool b_q) (.slice A_q n_q n_q) rfl rfl rfl rfl rfl
        refine bodyPost_ret (results_row_tmp rfl _ _ (w.heap.size) 26 #[.bool b_p, .slice A_p n_p n_p, .bool b_q, .slice A_q n_q n_q] (0, 0) _ rfl (R9_.b 1 rfl).is Tryz.underlying26 rfl (by kernel_rfl)) rfl ?_
        exact ⟨_, _, _, _, _, _, ret_vb HQ.out.1.symm, (by rw [HQ.out.2]; exact (R9_.z 1 rfl).mono (by omega)), (by rw [HQ.out.2]; exact (R9_.z 0 rfl).mono (by omega)), R9_.bel⟩
    · have hz0 := zpv_no hz
      have hq := qp_slash hl2 hp hs
      have hf := qf_no (h := cutH 47 l) (t := cutT 47 l) (fun e => hz e.1)
      rw [hf] at hq
      rw [zok_no hz] at hbp
      have HQ := Lib.hid (show qpok l = false ∧ (qpv l).num = zpv (cutH 47 l) ∧ (((qpv l).den : Nat) : Int) = 1 from ⟨hq.1, by rw [hq.2, hz0]; rfl, by rw [hq.2]; rfl⟩)
      generalize str l = S at *
      generalize str (cutH 47 l) = S1 at *
      generalize str (cutT 47 l) = S2 at *
      clear hl hn h1000 hp hs hq hf hz hz0 hl1 hl2 hlen h47
      go_enter Tryz.func26, Tryz.ntmps26
      go_wp2_with fail
      refine (c1 _).mono ?_; rintro e w1 ⟨rfl, hb1⟩
      have R1 := (R0.below hb1)
      go_wp2_with fail
      refine (c2 _).mono ?_; rintro e w2 ⟨rfl, hb2⟩
      have R2 := (R1.below hb2)
      go_wp2_with fail
      refine (hbp _).mono ?_; rintro e w3 ⟨b_x, A_x, n_x, rfl, z_x, hb3⟩
      have R3 := (((R2.below hb3).add z_x).alloc 24 #[.bool b_x, .slice A_x n_x n_x] (g := w3.heap.size) rfl rfl)
      go_wp2_with fail
      have R4 := R3.drew
      refine wp_region_late [] (fun w' => w'.cell? ⟨w3.heap.size, 0, none⟩ = some (.bool b_x) ∧ w'.cell? ⟨w3.heap.size, 1, none⟩ = some (.slice A_x n_x n_x)) (by kernel_rfl) ?_
      generalize hgw : World.drew _ = w4 at *
      clear hgw
      have s4 := And.intro (R4.cell 0 0 rfl rfl) (R4.cell 0 1 rfl rfl)
      refine wpAnyL_take (i := 0) (v := .agg #[.bool b_x, .slice A_x n_x n_x]) rfl (by kernel_rfl) (by kernel_rfl) (by kernel_rfl) (by kernel_rfl) (by kernel_rfl) (fun _ _ _ h => h) (Or.inl ⟨by rfl, by rintro w' ⟨h1, h2⟩; go_simp⟩) s4 ?_
      try simp only [Act.put, List.setIfInBounds_toArray, List.set_cons_zero, List.set_cons_succ]
      refine wpAnyL_take (i := 3) (v := ?_) rfl (by kernel_rfl) (by kernel_rfl) (by kernel_rfl) (by kernel_rfl) (by kernel_rfl) (fun _ _ _ h => h) (Or.inl ⟨by kernel_rfl, ?_⟩) s4 ?_
      rotate_left
      · rintro w' ⟨h1, h2⟩; go_simp; (try with_reducible rfl)
      try simp only [Act.put, List.setIfInBounds_toArray, List.set_cons_zero, List.set_cons_succ]
      refine wpAnyL_one (i := 1) (by kernel_rfl) rfl (fun K hK => ?_)
      go_simp
      refine (qone _).mono ?_; rintro e w5 ⟨b_o, A_o, n_o, rfl, z_o, hb5⟩
      have R5 := ((R4.below hb5).add z_o)
      have s5 := And.intro (R5.cell 0 0 rfl rfl) (R5.cell 0 1 rfl rfl)
      go_wp2_with fail
      refine hK.out _ _ (fun _ => s5) ?_
      clear hK K
      try simp only [Act.put, List.setIfInBounds_toArray, List.set_cons_zero, List.set_cons_succ]
      refine wpAnyL_take (i := 2) (v := ?_) rfl (by kernel_rfl) (by kernel_rfl) (by kernel_rfl) (by kernel_rfl) (by kernel_rfl) (fun _ _ _ h => h) (Or.inl ⟨by kernel_rfl, ?_⟩) s5 ?_
      rotate_left
      · rintro w' ⟨h1, h2⟩; go_simp; (try with_reducible rfl)
      try simp only [Act.put, List.setIfInBounds_toArray, List.set_cons_zero, List.set_cons_succ]
      refine wpAnyL_one (i := 4) (by kernel_rfl) rfl (fun K hK => ?_)
      have fc0 := R5.cell 1 0 rfl rfl
      have ff0 := R5.frozen 1 0 rfl
      have fc1 := R5.cell 1 1 rfl rfl
      have ff1 := R5.frozen 1 1 rfl
      have fc2 := R5.cell 1 2 rfl rfl
      have ff2 := R5.frozen 1 2 rfl
      have fc3 := R5.cell 1 3 rfl rfl
      have ff3 := R5.frozen 1 3 rfl
      go_simp
      clear fc0 ff0 fc1 ff1 fc2 ff2 fc3 ff3
      have R6 := R5.st4 1 (.bool b_x) (.slice A_x n_x n_x) (.bool b_o) (.slice A_o n_o n_o) rfl rfl rfl rfl rfl
      have s6 := And.intro (R6.cell 0 0 rfl rfl) (R6.cell 0 1 rfl rfl)
      refine hK.out _ _ (fun _ => s6) ?_
      clear hK K
      try simp only [Act.put, List.setIfInBounds_toArray, List.set_cons_zero, List.set_cons_succ]
      generalize ((((w5.setCell ⟨w.heap.size, 0, none⟩ (.bool b_x)).setCell ⟨w.heap.size, 1, none⟩ (.slice A_x n_x n_x)).setCell ⟨w.heap.size, 2, none⟩ (.bool b_o)).setCell ⟨w.heap.size, 3, none⟩ (.slice A_o n_o n_o)) = w6 at *
      refine wpAnyL_one (i := 5) (by kernel_rfl) rfl (fun K hK => ?_)
      go_simp
      refine hK.out _ _ (fun _ => s6) ?_
      clear hK K
      try simp only [Act.put, List.setIfInBounds_toArray, List.set_cons_zero, List.set_cons_succ]
      refine wpAnyL_done (by kernel_rfl) ?_ _
      go_wp2_with fail
      refine bodyPost_ret (results_row_tmp rfl _ _ (w.heap.size) 26 #[.bool b_x, .slice A_x n_x n_x, .bool b_o, .slice A_o n_o n_o] (0, 0) _ rfl (R6.b 1 rfl).is Tryz.underlying26 rfl (by kernel_rfl)) rfl ?_
      exact ⟨_, _, _, _, _, _, ret_vb HQ.out.1.symm, (by rw [HQ.out.2.1]; exact (R6.z 1 rfl).tight HF.out), (by rw [HQ.out.2.2]; exact (R6.z 0 rfl).mono (by omega)), R6.bel⟩
  · rw [decide_eq_false hs] at c2
    have hq := qp_whole hl2 hp hs
    have hqd := qdiv_one (zpv l)
    rw [qv_pos (by omega)] at hq
    have HQ := Lib.hid (show qpok l = zok (cutH 47 l) ∧ (qpv l).num = zpv (cutH 47 l) ∧ (((qpv l).den : Nat) : Int) = 1 from ⟨by rw [cutH_none hs]; exact hq.1, by rw [hq.2, hqd.1, cutH_none hs], by rw [hq.2, hqd.2]; rfl⟩)
    obtain ⟨ok, hok⟩ : ∃ b, zok (cutH 47 l) = b := ⟨_, rfl⟩
    rw [hok] at hbp HQ
    generalize str l = S at *
    generalize str (cutH 47 l) = S1 at *
    generalize str (cutT 47 l) = S2 at *
    clear hl hn h1000 hp hs hq hqd hl1 hl2 hlen hok
    go_enter Tryz.func26, Tryz.ntmps26
    go_wp2_with fail
    refine (c1 _).mono ?_; rintro e w1 ⟨rfl, hb1⟩
    have R1 := (R0.below hb1)
    go_wp2_with fail
    refine (c2 _).mono ?_; rintro e w2 ⟨rfl, hb2⟩
    have R2 := (R1.below hb2)
    go_wp2_with fail
    refine (hbp _).mono ?_; rintro e w3 ⟨b_x, A_x, n_x, rfl, z_x, hb3⟩
    have R3 := (((R2.below hb3).add z_x).alloc 24 #[.bool b_x, .slice A_x n_x n_x] (g := w3.heap.size) rfl rfl)
    go_wp2_with fail
    have R4 := R3.drew
    refine wp_region_late [] (fun w' => w'.cell? ⟨w3.heap.size, 0, none⟩ = some (.bool b_x) ∧ w'.cell? ⟨w3.heap.size, 1, none⟩ = some (.slice A_x n_x n_x)) (by kernel_rfl) ?_
    generalize hgw : World.drew _ = w4 at *
    clear hgw
    have s4 := And.intro (R4.cell 0 0 rfl rfl) (R4.cell 0 1 rfl rfl)
    refine wpAnyL_take (i := 0) (v := .agg #[.bool b_x, .slice A_x n_x n_x]) rfl (by kernel_rfl) (by kernel_rfl) (by kernel_rfl) (by kernel_rfl) (by kernel_rfl) (fun _ _ _ h => h) (Or.inl ⟨by rfl, by rintro w' ⟨h1, h2⟩; go_simp⟩) s4 ?_
    try simp only [Act.put, List.setIfInBounds_toArray, List.set_cons_zero, List.set_cons_succ]
    refine wpAnyL_take (i := 3) (v := ?_) rfl (by kernel_rfl) (by kernel_rfl) (by kernel_rfl) (by kernel_rfl) (by kernel_rfl) (fun _ _ _ h => h) (Or.inl ⟨by kernel_rfl, ?_⟩) s4 ?_
    rotate_left
    · rintro w' ⟨h1, h2⟩; go_simp; (try with_reducible rfl)
    try simp only [Act.put, List.setIfInBounds_toArray, List.set_cons_zero, List.set_cons_succ]
    refine wpAnyL_one (i := 1) (by kernel_rfl) rfl (fun K hK => ?_)
    go_simp
    refine (qone _).mono ?_; rintro e w5 ⟨b_o, A_o, n_o, rfl, z_o, hb5⟩
    have R5 := ((R4.below hb5).add z_o)
    have s5 := And.intro (R5.cell 0 0 rfl rfl) (R5.cell 0 1 rfl rfl)
    go_wp2_with fail
    refine hK.out _ _ (fun _ => s5) ?_
    clear hK K
    try simp only [Act.put, List.setIfInBounds_toArray, List.set_cons_zero, List.set_cons_succ]
    refine wpAnyL_take (i := 2) (v := ?_) rfl (by kernel_rfl) (by kernel_rfl) (by kernel_rfl) (by kernel_rfl) (by kernel_rfl) (fun _ _ _ h => h) (Or.inl ⟨by kernel_rfl, ?_⟩) s5 ?_
    rotate_left
    · rintro w' ⟨h1, h2⟩; go_simp; (try with_reducible rfl)
    try simp only [Act.put, List.setIfInBounds_toArray, List.set_cons_zero, List.set_cons_succ]
    refine wpAnyL_one (i := 4) (by kernel_rfl) rfl (fun K hK => ?_)
    have fc0 := R5.cell 1 0 rfl rfl
    have ff0 := R5.frozen 1 0 rfl
    have fc1 := R5.cell 1 1 rfl rfl
    have ff1 := R5.frozen 1 1 rfl
    have fc2 := R5.cell 1 2 rfl rfl
    have ff2 := R5.frozen 1 2 rfl
    have fc3 := R5.cell 1 3 rfl rfl
    have ff3 := R5.frozen 1 3 rfl
    go_simp
    clear fc0 ff0 fc1 ff1 fc2 ff2 fc3 ff3
    have R6 := R5.st4 1 (.bool b_x) (.slice A_x n_x n_x) (.bool b_o) (.slice A_o n_o n_o) rfl rfl rfl rfl rfl
    have s6 := And.intro (R6.cell 0 0 rfl rfl) (R6.cell 0 1 rfl rfl)
    refine hK.out _ _ (fun _ => s6) ?_
    clear hK K
    try simp only [Act.put, List.setIfInBounds_toArray, List.set_cons_zero, List.set_cons_succ]
    generalize ((((w5.setCell ⟨w.heap.size, 0, none⟩ (.bool b_x)).setCell ⟨w.heap.size, 1, none⟩ (.slice A_x n_x n_x)).setCell ⟨w.heap.size, 2, none⟩ (.bool b_o)).setCell ⟨w.heap.size, 3, none⟩ (.slice A_o n_o n_o)) = w6 at *
    refine wpAnyL_one (i := 5) (by kernel_rfl) rfl (fun K hK => ?_)
    go_simp
    refine hK.out _ _ (fun _ => s6) ?_
    clear hK K
    try simp only [Act.put, List.setIfInBounds_toArray, List.set_cons_zero, List.set_cons_succ]
    refine wpAnyL_done (by kernel_rfl) ?_ _
    go_wp2_with fail
    refine bodyPost_ret (results_row_tmp rfl _ _ (w.heap.size) 26 #[.bool b_x, .slice A_x n_x n_x, .bool b_o, .slice A_o n_o n_o] (0, 0) _ rfl (R6.b 1 rfl).is Tryz.underlying26 rfl (by kernel_rfl)) rfl ?_
    exact ⟨_, _, _, _, _, _, ret_vb HQ.out.1.symm, (by rw [HQ.out.2.1]; exact (R6.z 1 rfl).tight HF.out), (by rw [HQ.out.2.2]; exact (R6.z 0 rfl).mono (by omega)), R6.bel⟩
end Go.Proofs.YticjhlbmdjijnaaGreatDoor
