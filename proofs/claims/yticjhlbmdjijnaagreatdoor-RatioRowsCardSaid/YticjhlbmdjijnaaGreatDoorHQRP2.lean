/- The reference of package ratio: Parse. No condition but the reach of a string. No condition but the reach of a slice. -/
import Derived.Test.YticjhlbmdjijnaaGreatDoorHQRP
import Derived.Test.YticjhlbmdjijnaaGreatDoorHQP2
import Derived.Test.YticjhlbmdjijnaaGreatDoorG8
import Derived.Test.YticjhlbmdjijnaaGreatDoorGO
namespace Go.Proofs.YticjhlbmdjijnaaGreatDoor
set_option linter.unusedSimpArgs false
set_option linter.unusedVariables false
open Go.RowKit

theorem qd_short {h t : List Nat} (hh : bod h = []) : qdok h t = false ∧ qdv h t = 0 := qd_no (fun e => by have := e.1.pos; rw [hh] at this; simp at this)
set_option maxRecDepth 100000 in
set_option maxHeartbeats 6400000 in
theorem rqparse (l : List Nat) (hl : ∀ x ∈ l, x < 256) (w : World) (hlen : l.length ≤ 9223372036854775807) : Calls Tryz.prog 41 #[.string (str l)] w fun e w' => ∃ b3 A3 n3 c3 b4 A4 n4 c4, e = .returned (.tuple #[.agg #[.bool b3, .slice A3 n3 c3, .bool b4, .slice A4 n4 c4], .bool (qpok l)]) ∧ ZIs w' b3 A3 n3 c3 ((qpv l).num) 128 true ∧ ZIs w' b4 A4 n4 c4 (((qpv l).den : Nat) : Int) 128 true ∧ Below w.heap.size w w' := by
  obtain ⟨n, hn⟩ : ∃ n, l.length = n := ⟨_, rfl⟩
  have hS : (str l).size = n := by rw [str_size, hn]
  have R0 := (Env.nil_ w).alloc 26 #[.bool false, .slice none 0 0, .bool false, .slice none 0 0] (g := w.heap.size) rfl rfl
  rw [hn] at hlen
  have hn63 : (n : Int) ≤ 9223372036854775807 := by omega
  by_cases h1000 : 1000 < n
  · have HQ := Lib.hid (qp_long (l := l) (by omega))
    have hlt : decide ((1000 : Int) < (n : Int)) = true := by simp; omega
    generalize str l = S at *
    clear hl hn h1000
    go_enter Tryz.func41, Tryz.ntmps41
    go_wp2_with fail
    refine (rqzero _).mono ?_; rintro e w1 ⟨b_p, A_p, n_p, c_p, b_q, A_q, n_q, c_q, rfl, z_p, z_q, hb1⟩
    have R1 := (((R0.below hb1).add z_p).add z_q)
    have zr0 := R1.cell 0 0 rfl rfl
    have zr1 := R1.cell 0 1 rfl rfl
    have zr2 := R1.cell 0 2 rfl rfl
    have zr3 := R1.cell 0 3 rfl rfl
    have zfr0 := R1.frozen 0 0 rfl
    have zfr1 := R1.frozen 0 1 rfl
    have zfr2 := R1.frozen 0 2 rfl
    have zfr3 := R1.frozen 0 3 rfl
    go_wp2_with fail
    have R9_ := R1.st4 0 (.bool b_p) (.slice A_p n_p c_p) (.bool b_q) (.slice A_q n_q c_q) rfl rfl rfl rfl rfl
    refine bodyPost_ret (results_row_tmp rfl _ _ (w.heap.size) 26 #[.bool b_p, .slice A_p n_p c_p, .bool b_q, .slice A_q n_q c_q] (0, 0) _ rfl (R9_.b 0 rfl).is Tryz.underlying26 rfl (by kernel_rfl)) rfl ?_
    exact ⟨_, _, _, _, _, _, _, _, ret_vb HQ.out.1.symm, (by rw [HQ.out.2]; exact (R9_.z 1 rfl).mono (show 1 ≤ 128 by omega)), (by rw [HQ.out.2]; exact (R9_.z 0 rfl).mono (show 1 ≤ 128 by omega)), R9_.bel⟩
  have hle : decide ((1000 : Int) < (n : Int)) = false := by simp; omega
  have hl1 : l.length ≤ 1000 := by omega
  have hl2 : ¬ 1000 < l.length := by omega
  by_cases hn0 : n = 0
  · have hl0 : l = [] := List.eq_nil_of_length_eq_zero (by omega)
    have HQ : Hid (qpok l = false ∧ qpv l = 0) := Lib.hid (by
      have hq := qp_whole hl2 (show 46 ∉ l by rw [hl0]; simp) (show 47 ∉ l by rw [hl0]; simp)
      have hz : ¬ ZReads l := fun e => by have := e.1.pos; rw [hl0] at this; simp [bod] at this
      rw [zok_no hz, zpv_no hz, qv_pos (by omega)] at hq
      exact ⟨hq.1, by rw [hq.2]; simp⟩)
    have hnb : ((n : Int) == 0) = true := by simp [hn0]
    generalize str l = S at *
    clear hl hn h1000 hn0 hl0 hl1 hl2
    go_enter Tryz.func41, Tryz.ntmps41
    go_wp2_with fail
    refine (rqzero _).mono ?_; rintro e w1 ⟨b_p, A_p, n_p, c_p, b_q, A_q, n_q, c_q, rfl, z_p, z_q, hb1⟩
    have R1 := (((R0.below hb1).add z_p).add z_q)
    have zr0 := R1.cell 0 0 rfl rfl
    have zr1 := R1.cell 0 1 rfl rfl
    have zr2 := R1.cell 0 2 rfl rfl
    have zr3 := R1.cell 0 3 rfl rfl
    have zfr0 := R1.frozen 0 0 rfl
    have zfr1 := R1.frozen 0 1 rfl
    have zfr2 := R1.frozen 0 2 rfl
    have zfr3 := R1.frozen 0 3 rfl
    go_wp2_with fail
    have R9_ := R1.st4 0 (.bool b_p) (.slice A_p n_p c_p) (.bool b_q) (.slice A_q n_q c_q) rfl rfl rfl rfl rfl
    refine bodyPost_ret (results_row_tmp rfl _ _ (w.heap.size) 26 #[.bool b_p, .slice A_p n_p c_p, .bool b_q, .slice A_q n_q c_q] (0, 0) _ rfl (R9_.b 0 rfl).is Tryz.underlying26 rfl (by kernel_rfl)) rfl ?_
    exact ⟨_, _, _, _, _, _, _, _, ret_vb HQ.out.1.symm, (by rw [HQ.out.2]; exact (R9_.z 1 rfl).mono (show 1 ≤ 128 by omega)), (by rw [HQ.out.2]; exact (R9_.z 0 rfl).mono (show 1 ≤ 128 by omega)), R9_.bel⟩
  have hnb : ((n : Int) == 0) = false := by simp; omega
  have hn1 : (1 : Int) ≤ (n : Int) := by omega
  obtain ⟨x0, hx0⟩ : ∃ x, l[0]? = some x := ⟨_, List.getElem?_eq_getElem (by omega)⟩
  have hix := fun hh => str_get l hl 0 x0 hx0 hh
  have hx256 := hl x0 (List.mem_of_getElem? hx0)
  have c1 := fun w0 => rfind 46 (by omega) l hl (by omega) w0
  have c2 := fun w0 => rfind 47 (by omega) l hl (by omega) w0
  by_cases hp : 46 ∈ l
  · have hq := qp_point hl2 hp
    have hsp := cut_split hp
    obtain ⟨i, hi⟩ : ∃ i, (cutH 46 l).length = i := ⟨_, rfl⟩
    have e1 : idx 46 l = (i : Int) := by unfold idx; rw [if_pos hp, hi]
    rw [e1] at c1
    by_cases hi0 : i = 0
    · have HQ := Lib.hid (show qpok l = false ∧ qpv l = 0 by
        have h0 : cutH 46 l = [] := List.eq_nil_of_length_eq_zero (by omega)
        have := qd_short (h := cutH 46 l) (t := cutT 46 l) (by rw [h0]; rfl)
        rw [hq.1, hq.2]; exact this)
      subst hi0
      have c1' : ∀ w0, Calls Tryz.prog 80 #[.string (str l), .int .u8 46] w0 fun e w' => e = .returned (.int .i64 0) ∧ w0 = w' := c1
      generalize str l = S at *
      clear hl hn h1000 hn0 hl1 hl2 hp hq hsp hi e1 c1 c2 hx0
      go_enter Tryz.func41, Tryz.ntmps41
      go_wp2_with fail
      refine (c1' _).mono ?_; rintro e w1 ⟨rfl, rfl⟩
      go_wp2_with fail
      refine (rqzero _).mono ?_; rintro e w2 ⟨b_p, A_p, n_p, c_p, b_q, A_q, n_q, c_q, rfl, z_p, z_q, hb2⟩
      have R2 := (((R0.below hb2).add z_p).add z_q)
      have zr0 := R2.cell 0 0 rfl rfl
      have zr1 := R2.cell 0 1 rfl rfl
      have zr2 := R2.cell 0 2 rfl rfl
      have zr3 := R2.cell 0 3 rfl rfl
      have zfr0 := R2.frozen 0 0 rfl
      have zfr1 := R2.frozen 0 1 rfl
      have zfr2 := R2.frozen 0 2 rfl
      have zfr3 := R2.frozen 0 3 rfl
      go_wp2_with fail
      have R9_ := R2.st4 0 (.bool b_p) (.slice A_p n_p c_p) (.bool b_q) (.slice A_q n_q c_q) rfl rfl rfl rfl rfl
      refine bodyPost_ret (results_row_tmp rfl _ _ (w.heap.size) 26 #[.bool b_p, .slice A_p n_p c_p, .bool b_q, .slice A_q n_q c_q] (0, 0) _ rfl (R9_.b 0 rfl).is Tryz.underlying26 rfl (by kernel_rfl)) rfl ?_
      exact ⟨_, _, _, _, _, _, _, _, ret_vb HQ.out.1.symm, (by rw [HQ.out.2]; exact (R9_.z 1 rfl).mono (show 1 ≤ 128 by omega)), (by rw [HQ.out.2]; exact (R9_.z 0 rfl).mono (show 1 ≤ 128 by omega)), R9_.bel⟩
    by_cases hi1 : i = 1 ∧ x0 = 45
    · obtain ⟨hi1, hx45⟩ := hi1
      have HQ := Lib.hid (show qpok l = false ∧ qpv l = 0 by
        have h0 : cutH 46 l = [45] := by
          have hl3 := hi
          rw [hi1] at hl3
          match hc : cutH 46 l, hl3 with
          | [y], _ =>
            rw [hsp, hc] at hx0
            simp at hx0
            rw [hx0, hx45]
        have := qd_short (h := cutH 46 l) (t := cutT 46 l) (by rw [h0]; rfl)
        rw [hq.1, hq.2]; exact this)
      subst hi1
      have hxb : ((x0 : Int) == 45) = true := by simp [hx45]
      have c1' : ∀ w0, Calls Tryz.prog 80 #[.string (str l), .int .u8 46] w0 fun e w' => e = .returned (.int .i64 1) ∧ w0 = w' := c1
      generalize str l = S at *
      clear hl hn h1000 hn0 hl1 hl2 hp hq hsp hi e1 c1 c2 hx0 hx45
      go_enter Tryz.func41, Tryz.ntmps41
      go_wp2_with fail
      refine (c1' _).mono ?_; rintro e w1 ⟨rfl, rfl⟩
      go_wp2_with fail
      refine (rqzero _).mono ?_; rintro e w2 ⟨b_p, A_p, n_p, c_p, b_q, A_q, n_q, c_q, rfl, z_p, z_q, hb2⟩
      have R2 := (((R0.below hb2).add z_p).add z_q)
      have zr0 := R2.cell 0 0 rfl rfl
      have zr1 := R2.cell 0 1 rfl rfl
      have zr2 := R2.cell 0 2 rfl rfl
      have zr3 := R2.cell 0 3 rfl rfl
      have zfr0 := R2.frozen 0 0 rfl
      have zfr1 := R2.frozen 0 1 rfl
      have zfr2 := R2.frozen 0 2 rfl
      have zfr3 := R2.frozen 0 3 rfl
      go_wp2_with fail
      have R9_ := R2.st4 0 (.bool b_p) (.slice A_p n_p c_p) (.bool b_q) (.slice A_q n_q c_q) rfl rfl rfl rfl rfl
      refine bodyPost_ret (results_row_tmp rfl _ _ (w.heap.size) 26 #[.bool b_p, .slice A_p n_p c_p, .bool b_q, .slice A_q n_q c_q] (0, 0) _ rfl (R9_.b 0 rfl).is Tryz.underlying26 rfl (by kernel_rfl)) rfl ?_
      exact ⟨_, _, _, _, _, _, _, _, ret_vb HQ.out.1.symm, (by rw [HQ.out.2]; exact (R9_.z 1 rfl).mono (show 1 ≤ 128 by omega)), (by rw [HQ.out.2]; exact (R9_.z 0 rfl).mono (show 1 ≤ 128 by omega)), R9_.bel⟩
    have d1 := fun w0 => rqdecimal l (cutH 46 l) (cutT 46 l) hl hsp (fun e => by rw [e] at hi; simp at hi; omega) (fun e => hi1 ⟨by rw [e] at hi; simpa using hi.symm, by
      have h2 := hx0
      rw [hsp, e] at h2
      simp at h2
      exact h2.symm⟩) hl1 w0
    rw [← hq.1, ← hq.2, hi] at d1
    by_cases hi2 : i = 1
    · have hx45 : x0 ≠ 45 := fun e => hi1 ⟨hi2, e⟩
      have hxb : ((x0 : Int) == 45) = false := by simp; omega
      subst hi2
      have c1' : ∀ w0, Calls Tryz.prog 80 #[.string (str l), .int .u8 46] w0 fun e w' => e = .returned (.int .i64 1) ∧ w0 = w' := c1
      generalize str l = S at *
      have HL := Lib.hid hl
      clear hl hn h1000 hn0 hl1 hl2 hp hq hsp hi e1 c1 c2 hx0 hx45 hi1
      go_enter Tryz.func41, Tryz.ntmps41
      go_wp2_with fail
      refine (c1' _).mono ?_; rintro e w1 ⟨rfl, rfl⟩
      go_wp2_with fail
      refine (d1 _).mono ?_; rintro e w2 ⟨b_p, A_p, n_p, c_p, b_q, A_q, n_q, c_q, rfl, z_p, z_q, hb2⟩
      have R2 := (((R0.below hb2).add z_p).add z_q)
      have zr0 := R2.cell 0 0 rfl rfl
      have zr1 := R2.cell 0 1 rfl rfl
      have zr2 := R2.cell 0 2 rfl rfl
      have zr3 := R2.cell 0 3 rfl rfl
      have zfr0 := R2.frozen 0 0 rfl
      have zfr1 := R2.frozen 0 1 rfl
      have zfr2 := R2.frozen 0 2 rfl
      have zfr3 := R2.frozen 0 3 rfl
      go_wp2_with fail
      have R9_ := R2.st4 0 (.bool b_p) (.slice A_p n_p c_p) (.bool b_q) (.slice A_q n_q c_q) rfl rfl rfl rfl rfl
      refine bodyPost_ret (results_row_tmp rfl _ _ (w.heap.size) 26 #[.bool b_p, .slice A_p n_p c_p, .bool b_q, .slice A_q n_q c_q] (0, 0) _ rfl (R9_.b 0 rfl).is Tryz.underlying26 rfl (by kernel_rfl)) rfl ?_
      exact ⟨_, _, _, _, _, _, _, _, rfl, (R9_.z 1 rfl), (R9_.z 0 rfl), R9_.bel⟩
    have hb0 : ((i : Int) == 0) = false := by simp; omega
    have hb1 : ((i : Int) == 1) = false := by simp; omega
    have hip : (0 : Int) < (i : Int) := by omega
    have c1' : ∀ w0, Calls Tryz.prog 80 #[.string (str l), .int .u8 46] w0 fun e w' => e = .returned (.int .i64 (i : Int)) ∧ w0 = w' := c1
    generalize str l = S at *
    have HL := Lib.hid hl
    clear hl hn h1000 hn0 hl1 hl2 hp hq hsp hi e1 c1 c2 hx0 hi1 hi0 hi2
    go_enter Tryz.func41, Tryz.ntmps41
    go_wp2_with fail
    refine (c1' _).mono ?_; rintro e w1 ⟨rfl, rfl⟩
    go_wp2_with fail
    refine (d1 _).mono ?_; rintro e w2 ⟨b_p, A_p, n_p, c_p, b_q, A_q, n_q, c_q, rfl, z_p, z_q, hb2⟩
    have R2 := (((R0.below hb2).add z_p).add z_q)
    have zr0 := R2.cell 0 0 rfl rfl
    have zr1 := R2.cell 0 1 rfl rfl
    have zr2 := R2.cell 0 2 rfl rfl
    have zr3 := R2.cell 0 3 rfl rfl
    have zfr0 := R2.frozen 0 0 rfl
    have zfr1 := R2.frozen 0 1 rfl
    have zfr2 := R2.frozen 0 2 rfl
    have zfr3 := R2.frozen 0 3 rfl
    go_wp2_with fail
    have R9_ := R2.st4 0 (.bool b_p) (.slice A_p n_p c_p) (.bool b_q) (.slice A_q n_q c_q) rfl rfl rfl rfl rfl
    refine bodyPost_ret (results_row_tmp rfl _ _ (w.heap.size) 26 #[.bool b_p, .slice A_p n_p c_p, .bool b_q, .slice A_q n_q c_q] (0, 0) _ rfl (R9_.b 0 rfl).is Tryz.underlying26 rfl (by kernel_rfl)) rfl ?_
    exact ⟨_, _, _, _, _, _, _, _, rfl, (R9_.z 1 rfl), (R9_.z 0 rfl), R9_.bel⟩
  have e1 : idx 46 l = -1 := by unfold idx; rw [if_neg hp]
  rw [e1] at c1
  have c1' : ∀ w0, Calls Tryz.prog 80 #[.string (str l), .int .u8 46] w0 fun e w' => e = .returned (.int .i64 (-1)) ∧ w0 = w' := c1
  by_cases hs : 47 ∈ l
  · have h47 := cut_len hs
    obtain ⟨k, hk⟩ : ∃ k, (cutH 47 l).length = k := ⟨_, rfl⟩
    have e2 : idx 47 l = (k : Int) := by unfold idx; rw [if_pos hs, hk]
    rw [e2] at c2
    have c2' : ∀ w0, Calls Tryz.prog 80 #[.string (str l), .int .u8 47] w0 fun e w' => e = .returned (.int .i64 (k : Int)) ∧ w0 = w' := c2
    have q1 := fun w => str_head (P := Tryz.prog) 9 Tryz.underlying9 l k (by omega) w
    have q2 := fun w => str_cut (P := Tryz.prog) 9 Tryz.underlying9 l (k + 1) (by omega) w
    rw [show l.take k = cutH 47 l by rw [← hk, cutH_take]] at q1
    rw [show l.drop (k + 1) = cutT 47 l by rw [← hk, cutT_drop hs]] at q2
    have q2' : ∀ w, (Instr.slice 9 (.string (str l)) (some (.int .i64 ((k : Int) + 1))) none none).run Tryz.prog w = .ok (.string (str (cutT 47 l))) w := fun w => q2 w
    have hkL : (k : Int) ≤ 1000 := by omega
    have hbp := fun w0 => rzparse (cutH 47 l) (cutH_lt hl) w0 (by omega)
    have HF := Lib.hid (zpv_few (l := cutH 47 l) (by omega))
    have hq := qp_slash hl2 hp hs
    by_cases hz : ZReads (cutH 47 l)
    · rw [zok_yes hz] at hbp
      by_cases hr : Reads (cutT 47 l)
      · have d1 := fun w0 => rparse_z (cutT 47 l) (cutT_lt hl) w0 hr (by omega)
        by_cases h0 : dec (cutT 47 l) = 0
        · have hf := qf_no (h := cutH 47 l) (t := cutT 47 l) (fun e => by have := e.2.2; omega)
          rw [hf] at hq
          have HQ := Lib.hid (show qpok l = false ∧ qpv l = 0 from ⟨hq.1, hq.2⟩)
          have H0 := Lib.hid h0
          generalize str l = S at *
          generalize str (cutH 47 l) = S1 at *
          generalize str (cutT 47 l) = S2 at *
          clear hl hn h1000 hn0 hl1 hl2 hp hq h47 hk e1 e2 c1 c2 q2 hx0 hs hf h0 hz hr
          go_enter Tryz.func41, Tryz.ntmps41
          go_wp2_with fail
          refine (c1' _).mono ?_; rintro e w1 ⟨rfl, rfl⟩
          go_wp2_with fail
          refine (c2' _).mono ?_; rintro e w2 ⟨rfl, rfl⟩
          go_wp2_with fail
          refine (hbp _).mono ?_; rintro e w3 ⟨b_x, A_x, n_x, c_x, rfl, z_x, hb3⟩
          have R3 := (((R0.below hb3).add z_x).alloc 24 #[.bool b_x, .slice A_x n_x c_x] (g := w3.heap.size) rfl rfl)
          go_wp2_with fail
          refine (d1 _).mono ?_; rintro e w4 ⟨A_d, n_d, c_d, rfl, z_d, hb4⟩
          have R4 := R3.below hb4
          obtain rfl : n_d = 0 := z_d.zero_iff.2 (by rw [H0.out]; rfl)
          go_wp2_with fail
          refine (rqzero _).mono ?_; rintro e w5 ⟨b_p, A_p, n_p, c_p, b_q, A_q, n_q, c_q, rfl, z_p, z_q, hb5⟩
          have R5 := (((R4.below hb5).add z_p).add z_q)
          have zr0 := R5.cell 1 0 rfl rfl
          have zr1 := R5.cell 1 1 rfl rfl
          have zr2 := R5.cell 1 2 rfl rfl
          have zr3 := R5.cell 1 3 rfl rfl
          have zfr0 := R5.frozen 1 0 rfl
          have zfr1 := R5.frozen 1 1 rfl
          have zfr2 := R5.frozen 1 2 rfl
          have zfr3 := R5.frozen 1 3 rfl
          go_wp2_with fail
          have R9_ := R5.st4 1 (.bool b_p) (.slice A_p n_p c_p) (.bool b_q) (.slice A_q n_q c_q) rfl rfl rfl rfl rfl
          refine bodyPost_ret (results_row_tmp rfl _ _ (w.heap.size) 26 #[.bool b_p, .slice A_p n_p c_p, .bool b_q, .slice A_q n_q c_q] (0, 0) _ rfl (R9_.b 1 rfl).is Tryz.underlying26 rfl (by kernel_rfl)) rfl ?_
          exact ⟨_, _, _, _, _, _, _, _, ret_vb HQ.out.1.symm, (by rw [HQ.out.2]; exact (R9_.z 1 rfl).mono (show 1 ≤ 128 by omega)), (by rw [HQ.out.2]; exact (R9_.z 0 rfl).mono (show 1 ≤ 128 by omega)), R9_.bel⟩
        · have hf := qf_yes hz hr (Nat.pos_of_ne_zero h0)
          have hpos : (0 : Int) < ((dec (cutT 47 l) : Nat) : Int) := by omega
          rw [hf, if_pos rfl] at hq
          have hq3 := hq.2
          rw [qv_pos hpos] at hq3
          have HQ := Lib.hid (And.intro hq hq3)
          have HB := Lib.hid (And.intro hpos (And.intro (qnum_lt hpos HF.out) (qden_lt (x := zpv (cutH 47 l)) hpos (by rw [Int.natAbs_natCast]; exact dec_few hr.digs (by omega)))))
          generalize str l = S at *
          generalize str (cutH 47 l) = S1 at *
          generalize str (cutT 47 l) = S2 at *
          clear hl hn h1000 hn0 hl1 hl2 hp hq h47 hk e1 e2 c1 c2 q2 hx0 hs hf h0 hz hr hpos hq3
          go_enter Tryz.func41, Tryz.ntmps41
          go_wp2_with fail
          refine (c1' _).mono ?_; rintro e w1 ⟨rfl, rfl⟩
          go_wp2_with fail
          refine (c2' _).mono ?_; rintro e w2 ⟨rfl, rfl⟩
          go_wp2_with fail
          refine (hbp _).mono ?_; rintro e w3 ⟨b_x, A_x, n_x, c_x, rfl, z_x, hb3⟩
          have R3 := (((R0.below hb3).add z_x).alloc 24 #[.bool b_x, .slice A_x n_x c_x] (g := w3.heap.size) rfl rfl)
          go_wp2_with fail
          refine (d1 _).mono ?_; rintro e w4 ⟨A_d, n_d, c_d, rfl, z_d, hb4⟩
          have R4 := (R3.below hb4).add z_d
          have hd0 : n_d ≠ 0 := fun e => by have := z_d.zero_iff.1 e; have := HB.out.1; omega
          have hdb : ((n_d : Int) == 0) = false := by simpa using hd0
          clear hd0
          have k5num0 := R4.cell 0 0 rfl rfl
          have k5num1 := R4.cell 0 1 rfl rfl
          go_wp2_with fail
          clear k5num0 k5num1
          refine (rqplain (K := 128) ((R4.z 1 rfl).tight HF.out) (R4.z 0 rfl) (by omega) (by omega) (by omega) (by omega) HQ.out.1.2.symm).mono ?_; rintro e w5 ⟨b_p, A_p, n_p, c_p, b_q, A_q, n_q, c_q, rfl, z_p, z_q, hb5⟩
          have R5 := (((R4.below hb5).add z_p).add z_q)
          have zr0 := R5.cell 1 0 rfl rfl
          have zr1 := R5.cell 1 1 rfl rfl
          have zr2 := R5.cell 1 2 rfl rfl
          have zr3 := R5.cell 1 3 rfl rfl
          have zfr0 := R5.frozen 1 0 rfl
          have zfr1 := R5.frozen 1 1 rfl
          have zfr2 := R5.frozen 1 2 rfl
          have zfr3 := R5.frozen 1 3 rfl
          go_wp2_with fail
          have R9_ := R5.st4 1 (.bool b_p) (.slice A_p n_p c_p) (.bool b_q) (.slice A_q n_q c_q) rfl rfl rfl rfl rfl
          refine bodyPost_ret (results_row_tmp rfl _ _ (w.heap.size) 26 #[.bool b_p, .slice A_p n_p c_p, .bool b_q, .slice A_q n_q c_q] (0, 0) _ rfl (R9_.b 1 rfl).is Tryz.underlying26 rfl (by kernel_rfl)) rfl ?_
          exact ⟨_, _, _, _, _, _, _, _, ret_vb HQ.out.1.1.symm, (R9_.z 1 rfl), (R9_.z 0 rfl), R9_.bel⟩
      · have d1 := fun w0 => rparse_bad (cutT 47 l) (cutT_lt hl) w0 hr
        have hf := qf_no (h := cutH 47 l) (t := cutT 47 l) (fun e => hr e.2.1)
        rw [hf] at hq
        have HQ := Lib.hid (show qpok l = false ∧ qpv l = 0 from ⟨hq.1, hq.2⟩)
        generalize str l = S at *
        generalize str (cutH 47 l) = S1 at *
        generalize str (cutT 47 l) = S2 at *
        clear hl hn h1000 hn0 hl1 hl2 hp hq h47 hk e1 e2 c1 c2 q2 hx0 hs hf hz hr
        go_enter Tryz.func41, Tryz.ntmps41
        go_wp2_with fail
        refine (c1' _).mono ?_; rintro e w1 ⟨rfl, rfl⟩
        go_wp2_with fail
        refine (c2' _).mono ?_; rintro e w2 ⟨rfl, rfl⟩
        go_wp2_with fail
        refine (hbp _).mono ?_; rintro e w3 ⟨b_x, A_x, n_x, c_x, rfl, z_x, hb3⟩
        have R3 := (((R0.below hb3).add z_x).alloc 24 #[.bool b_x, .slice A_x n_x c_x] (g := w3.heap.size) rfl rfl)
        go_wp2_with fail
        refine (d1 _).mono ?_; rintro e w4 ⟨rfl, hb4⟩
        have R4 := (R3.below hb4)
        go_wp2_with fail
        refine (rqzero _).mono ?_; rintro e w5 ⟨b_p, A_p, n_p, c_p, b_q, A_q, n_q, c_q, rfl, z_p, z_q, hb5⟩
        have R5 := (((R4.below hb5).add z_p).add z_q)
        have zr0 := R5.cell 1 0 rfl rfl
        have zr1 := R5.cell 1 1 rfl rfl
        have zr2 := R5.cell 1 2 rfl rfl
        have zr3 := R5.cell 1 3 rfl rfl
        have zfr0 := R5.frozen 1 0 rfl
        have zfr1 := R5.frozen 1 1 rfl
        have zfr2 := R5.frozen 1 2 rfl
        have zfr3 := R5.frozen 1 3 rfl
        go_wp2_with fail
        have R9_ := R5.st4 1 (.bool b_p) (.slice A_p n_p c_p) (.bool b_q) (.slice A_q n_q c_q) rfl rfl rfl rfl rfl
        refine bodyPost_ret (results_row_tmp rfl _ _ (w.heap.size) 26 #[.bool b_p, .slice A_p n_p c_p, .bool b_q, .slice A_q n_q c_q] (0, 0) _ rfl (R9_.b 1 rfl).is Tryz.underlying26 rfl (by kernel_rfl)) rfl ?_
        exact ⟨_, _, _, _, _, _, _, _, ret_vb HQ.out.1.symm, (by rw [HQ.out.2]; exact (R9_.z 1 rfl).mono (show 1 ≤ 128 by omega)), (by rw [HQ.out.2]; exact (R9_.z 0 rfl).mono (show 1 ≤ 128 by omega)), R9_.bel⟩
    · rw [zok_no hz] at hbp
      have hf := qf_no (h := cutH 47 l) (t := cutT 47 l) (fun e => hz e.1)
      rw [hf] at hq
      have HQ := Lib.hid (show qpok l = false ∧ qpv l = 0 from ⟨hq.1, hq.2⟩)
      by_cases hr : Reads (cutT 47 l)
      · have d1 := fun w0 => rparse_z (cutT 47 l) (cutT_lt hl) w0 hr (by omega)
        generalize str l = S at *
        generalize str (cutH 47 l) = S1 at *
        generalize str (cutT 47 l) = S2 at *
        clear hl hn h1000 hn0 hl1 hl2 hp hq h47 hk e1 e2 c1 c2 q2 hx0 hs hf hz hr
        go_enter Tryz.func41, Tryz.ntmps41
        go_wp2_with fail
        refine (c1' _).mono ?_; rintro e w1 ⟨rfl, rfl⟩
        go_wp2_with fail
        refine (c2' _).mono ?_; rintro e w2 ⟨rfl, rfl⟩
        go_wp2_with fail
        refine (hbp _).mono ?_; rintro e w3 ⟨b_x, A_x, n_x, c_x, rfl, z_x, hb3⟩
        have R3 := (((R0.below hb3).add z_x).alloc 24 #[.bool b_x, .slice A_x n_x c_x] (g := w3.heap.size) rfl rfl)
        go_wp2_with fail
        refine (d1 _).mono ?_; rintro e w4 ⟨A_d, n_d, c_d, rfl, z_d, hb4⟩
        have R4 := R3.below hb4
        go_wp2_with fail
        refine (rqzero _).mono ?_; rintro e w5 ⟨b_p, A_p, n_p, c_p, b_q, A_q, n_q, c_q, rfl, z_p, z_q, hb5⟩
        have R5 := (((R4.below hb5).add z_p).add z_q)
        have zr0 := R5.cell 1 0 rfl rfl
        have zr1 := R5.cell 1 1 rfl rfl
        have zr2 := R5.cell 1 2 rfl rfl
        have zr3 := R5.cell 1 3 rfl rfl
        have zfr0 := R5.frozen 1 0 rfl
        have zfr1 := R5.frozen 1 1 rfl
        have zfr2 := R5.frozen 1 2 rfl
        have zfr3 := R5.frozen 1 3 rfl
        go_wp2_with fail
        have R9_ := R5.st4 1 (.bool b_p) (.slice A_p n_p c_p) (.bool b_q) (.slice A_q n_q c_q) rfl rfl rfl rfl rfl
        refine bodyPost_ret (results_row_tmp rfl _ _ (w.heap.size) 26 #[.bool b_p, .slice A_p n_p c_p, .bool b_q, .slice A_q n_q c_q] (0, 0) _ rfl (R9_.b 1 rfl).is Tryz.underlying26 rfl (by kernel_rfl)) rfl ?_
        exact ⟨_, _, _, _, _, _, _, _, ret_vb HQ.out.1.symm, (by rw [HQ.out.2]; exact (R9_.z 1 rfl).mono (show 1 ≤ 128 by omega)), (by rw [HQ.out.2]; exact (R9_.z 0 rfl).mono (show 1 ≤ 128 by omega)), R9_.bel⟩
      · have d1 := fun w0 => rparse_bad (cutT 47 l) (cutT_lt hl) w0 hr
        generalize str l = S at *
        generalize str (cutH 47 l) = S1 at *
        generalize str (cutT 47 l) = S2 at *
        clear hl hn h1000 hn0 hl1 hl2 hp hq h47 hk e1 e2 c1 c2 q2 hx0 hs hf hz hr
        go_enter Tryz.func41, Tryz.ntmps41
        go_wp2_with fail
        refine (c1' _).mono ?_; rintro e w1 ⟨rfl, rfl⟩
        go_wp2_with fail
        refine (c2' _).mono ?_; rintro e w2 ⟨rfl, rfl⟩
        go_wp2_with fail
        refine (hbp _).mono ?_; rintro e w3 ⟨b_x, A_x, n_x, c_x, rfl, z_x, hb3⟩
        have R3 := (((R0.below hb3).add z_x).alloc 24 #[.bool b_x, .slice A_x n_x c_x] (g := w3.heap.size) rfl rfl)
        go_wp2_with fail
        refine (d1 _).mono ?_; rintro e w4 ⟨rfl, hb4⟩
        have R4 := (R3.below hb4)
        go_wp2_with fail
        refine (rqzero _).mono ?_; rintro e w5 ⟨b_p, A_p, n_p, c_p, b_q, A_q, n_q, c_q, rfl, z_p, z_q, hb5⟩
        have R5 := (((R4.below hb5).add z_p).add z_q)
        have zr0 := R5.cell 1 0 rfl rfl
        have zr1 := R5.cell 1 1 rfl rfl
        have zr2 := R5.cell 1 2 rfl rfl
        have zr3 := R5.cell 1 3 rfl rfl
        have zfr0 := R5.frozen 1 0 rfl
        have zfr1 := R5.frozen 1 1 rfl
        have zfr2 := R5.frozen 1 2 rfl
        have zfr3 := R5.frozen 1 3 rfl
        go_wp2_with fail
        have R9_ := R5.st4 1 (.bool b_p) (.slice A_p n_p c_p) (.bool b_q) (.slice A_q n_q c_q) rfl rfl rfl rfl rfl
        refine bodyPost_ret (results_row_tmp rfl _ _ (w.heap.size) 26 #[.bool b_p, .slice A_p n_p c_p, .bool b_q, .slice A_q n_q c_q] (0, 0) _ rfl (R9_.b 1 rfl).is Tryz.underlying26 rfl (by kernel_rfl)) rfl ?_
        exact ⟨_, _, _, _, _, _, _, _, ret_vb HQ.out.1.symm, (by rw [HQ.out.2]; exact (R9_.z 1 rfl).mono (show 1 ≤ 128 by omega)), (by rw [HQ.out.2]; exact (R9_.z 0 rfl).mono (show 1 ≤ 128 by omega)), R9_.bel⟩
  · have e2 : idx 47 l = -1 := by unfold idx; rw [if_neg hs]
    rw [e2] at c2
    have c2' : ∀ w0, Calls Tryz.prog 80 #[.string (str l), .int .u8 47] w0 fun e w' => e = .returned (.int .i64 (-1)) ∧ w0 = w' := c2
    have hq := qp_whole hl2 hp hs
    have hqd := qdiv_one (zpv l)
    rw [qv_pos (by omega)] at hq
    have hbp := fun w0 => rzparse l hl w0 (by omega)
    have HF := Lib.hid (zpv_few (l := l) (by omega))
    have HQ := Lib.hid (show qpok l = zok l ∧ (qpv l).num = zpv l ∧ (((qpv l).den : Nat) : Int) = 1 from ⟨hq.1, by rw [hq.2, hqd.1], by rw [hq.2, hqd.2]; rfl⟩)
    obtain ⟨ok, hok⟩ : ∃ b, zok l = b := ⟨_, rfl⟩
    rw [hok] at hbp HQ
    generalize str l = S at *
    clear hl hn h1000 hn0 hl1 hl2 hp hq hqd e1 e2 c1 c2 hx0 hs hok
    go_enter Tryz.func41, Tryz.ntmps41
    go_wp2_with fail
    refine (c1' _).mono ?_; rintro e w1 ⟨rfl, rfl⟩
    go_wp2_with fail
    refine (c2' _).mono ?_; rintro e w2 ⟨rfl, rfl⟩
    go_wp2_with fail
    refine (hbp _).mono ?_; rintro e w3 ⟨b_x, A_x, n_x, c_x, rfl, z_x, hb3⟩
    have R3 := (((R0.below hb3).add z_x).alloc 24 #[.bool b_x, .slice A_x n_x c_x] (g := w3.heap.size) rfl rfl)
    go_wp2_with fail
    have R4 := R3.drew
    refine wp_region_late [] (fun w' => w'.cell? ⟨w3.heap.size, 0, none⟩ = some (.bool b_x) ∧ w'.cell? ⟨w3.heap.size, 1, none⟩ = some (.slice A_x n_x c_x)) (by kernel_rfl) ?_
    generalize hgw : World.drew _ = w4 at *
    clear hgw
    have s4 := And.intro (R4.cell 0 0 rfl rfl) (R4.cell 0 1 rfl rfl)
    refine wpAnyL_take (i := 0) (v := .agg #[.bool b_x, .slice A_x n_x c_x]) rfl (by kernel_rfl) (by kernel_rfl) (by kernel_rfl) (by kernel_rfl) (by kernel_rfl) (fun _ _ _ h => h) (Or.inl ⟨by rfl, by rintro w' ⟨h1, h2⟩; go_simp⟩) s4 ?_
    try simp only [Act.put, List.setIfInBounds_toArray, List.set_cons_zero, List.set_cons_succ]
    refine wpAnyL_take (i := 3) (v := ?_) rfl (by kernel_rfl) (by kernel_rfl) (by kernel_rfl) (by kernel_rfl) (by kernel_rfl) (fun _ _ _ h => h) (Or.inl ⟨by kernel_rfl, ?_⟩) s4 ?_
    rotate_left
    · rintro w' ⟨h1, h2⟩; go_simp; (try with_reducible rfl)
    try simp only [Act.put, List.setIfInBounds_toArray, List.set_cons_zero, List.set_cons_succ]
    refine wpAnyL_one (i := 1) (by kernel_rfl) rfl (fun K hK => ?_)
    go_simp
    refine (rzof 1 _ (by decide) (by decide)).mono ?_; rintro e w5 ⟨b_o, A_o, n_o, c_o, rfl, z_o, hb5⟩
    have R5 := ((R4.below hb5).add z_o)
    have s5 := And.intro (R5.cell 0 0 rfl rfl) (R5.cell 0 1 rfl rfl)
    go_wp2_with fail
    refine hK.out _ _ (fun _ => s5) ?_
    clear hK K
    try simp only [Act.put, List.setIfInBounds_toArray, List.set_cons_zero, List.set_cons_succ]
    refine wpAnyL_take (i := 2) (v := ?_) rfl (by kernel_rfl) (by kernel_rfl) (by kernel_rfl) (by kernel_rfl) (by kernel_rfl) (fun _ _ _ h => h) (Or.inl ⟨by kernel_rfl, ?_⟩) s5 ?_
    rotate_left
    · rintro w' ⟨h1, h2⟩; go_simp; (try with_reducible rfl)
    try simp only [Act.put, List.setIfInBounds_toArray, List.set_cons_zero, List.set_cons_succ]
    refine wpAnyL_one (i := 4) (by kernel_rfl) rfl (fun K hK => ?_)
    have fc0 := R5.cell 1 0 rfl rfl
    have ff0 := R5.frozen 1 0 rfl
    have fc1 := R5.cell 1 1 rfl rfl
    have ff1 := R5.frozen 1 1 rfl
    have fc2 := R5.cell 1 2 rfl rfl
    have ff2 := R5.frozen 1 2 rfl
    have fc3 := R5.cell 1 3 rfl rfl
    have ff3 := R5.frozen 1 3 rfl
    go_simp
    clear fc0 ff0 fc1 ff1 fc2 ff2 fc3 ff3
    have R6 := R5.st4 1 (.bool b_x) (.slice A_x n_x c_x) (.bool b_o) (.slice A_o n_o c_o) rfl rfl rfl rfl rfl
    have s6 := And.intro (R6.cell 0 0 rfl rfl) (R6.cell 0 1 rfl rfl)
    refine hK.out _ _ (fun _ => s6) ?_
    clear hK K
    try simp only [Act.put, List.setIfInBounds_toArray, List.set_cons_zero, List.set_cons_succ]
    generalize ((((w5.setCell ⟨w.heap.size, 0, none⟩ (.bool b_x)).setCell ⟨w.heap.size, 1, none⟩ (.slice A_x n_x c_x)).setCell ⟨w.heap.size, 2, none⟩ (.bool b_o)).setCell ⟨w.heap.size, 3, none⟩ (.slice A_o n_o c_o)) = w6 at *
    refine wpAnyL_one (i := 5) (by kernel_rfl) rfl (fun K hK => ?_)
    go_simp
    refine hK.out _ _ (fun _ => s6) ?_
    clear hK K
    try simp only [Act.put, List.setIfInBounds_toArray, List.set_cons_zero, List.set_cons_succ]
    refine wpAnyL_done (by kernel_rfl) ?_ _
    go_wp2_with fail
    refine bodyPost_ret (results_row_tmp rfl _ _ (w.heap.size) 26 #[.bool b_x, .slice A_x n_x c_x, .bool b_o, .slice A_o n_o c_o] (0, 0) _ rfl (R6.b 1 rfl).is Tryz.underlying26 rfl (by kernel_rfl)) rfl ?_
    exact ⟨_, _, _, _, _, _, _, _, ret_vb HQ.out.1.symm, (by rw [HQ.out.2.1]; exact (R6.z 1 rfl).tight HF.out), (by rw [HQ.out.2.2]; exact (R6.z 0 rfl).tight (by decide)), R6.bel⟩
end Go.Proofs.YticjhlbmdjijnaaGreatDoor
