/- The law CellLast, walked. No condition. -/
import Derived.Test.YtfoeapjlklfjgaaDoorCellN
namespace Go.Proofs.YtfoeapjlklfjgaaDoor
set_option linter.unusedSimpArgs false
set_option linter.unusedVariables false
open Go.RowKit

theorem mayN_no' {pt ps : Int} {n : Nat} (h : ¬ (1 ≤ ps ∧ ps ≤ 8 ∧ 0 ≤ pt ∧ pt < ps ∧ 1 ≤ n ∧ n ≤ 49 ∧ (n = 49 ∨ pt = ps - 1))) : Value.bool false = .bool (mayN pt ps n) := by unfold mayN; rw [decide_eq_false h]
theorem mayN_yes' {pt ps : Int} {n : Nat} (h : 1 ≤ ps ∧ ps ≤ 8 ∧ 0 ≤ pt ∧ pt < ps ∧ 1 ≤ n ∧ n ≤ 49 ∧ (n = 49 ∨ pt = ps - 1)) : Value.bool true = .bool (mayN pt ps n) := by unfold mayN; rw [decide_eq_true h]

set_option maxRecDepth 100000 in
set_option maxHeartbeats 6400000 in
theorem cellLast_any (nn : Nat) (pt ps : Int) (w : World) (hn : nn < 256) (hpt : -9223372036854775808 ≤ pt ∧ pt ≤ 9223372036854775807) (hps : -9223372036854775808 ≤ ps ∧ ps ≤ 9223372036854775807) :
    Calls Tryd.prog 9 #[.int .u8 (nn : Int), .int .i64 pt, .int .i64 ps] w fun e w' => e = .returned (.bool true) ∧ Below w.heap.size w w' := by
  obtain ⟨k, hk⟩ : ∃ k, nn % 60 = k := ⟨_, rfl⟩
  have hk60 : k < 60 := by omega
  have hki : (nn : Int) % 60 = (k : Int) := by omega
  have hki2 : (nn : Int).tmod 60 = (k : Int) := by rw [Int.tmod_eq_emod_of_nonneg (by omega)]; exact hki
  have E0 := CE.nil_ w
  clear hk
  go_enter Tryd.func9, Tryd.ntmps9
  go_wp2_with fail
  refine (cawake_any _).mono ?_; rintro e w1 ⟨rfl, hb1⟩
  have E1 := E0.below hb1
  clear E0 hb1
  go_upto_region 5 with (refine wpList_mkB rfl _ _ rfl k rfl rfl rfl rfl (by omega) w1.heap.size (Nat.le_refl _) ?_; intro w2 ho2 hg2)
  have E2 := ((E1.below (below_none (Below.refl _ _) hg2 (Nat.le_refl _))).addI ho2.ints).alloc 25 #[.int .u32 1, .int .u32 2, .int .i64 pt, .int .i64 ps, .slice (some ⟨w1.heap.size, 0, none⟩) k k] rfl
  clear E1 ho2 hg2
  go_cut [9] (fun v9 wx => v9 = .bool (mayN pt ps k) ∧ wx = w2.alloc (.cells #[.int .u32 1, .int .u32 2, .int .i64 pt, .int .i64 ps, .slice (some ⟨w1.heap.size, 0, none⟩) k k] 25))
  case first =>
    by_cases h1 : 1 ≤ ps
    case neg =>
      have HN := Lib.hid (mayN_no' (pt := pt) (ps := ps) (n := k) (fun h => h1 h.1))
      have d1 : decide (1 ≤ ps) = false := decide_eq_false (by omega)
      clear h1
      go_wp2_with fail
      go_meet
      exact ⟨HN.out, rfl⟩
    have d1 : decide (1 ≤ ps) = true := decide_eq_true (by omega)
    by_cases h2 : ps ≤ 8
    case neg =>
      have HN := Lib.hid (mayN_no' (pt := pt) (ps := ps) (n := k) (fun h => h2 h.2.1))
      have d2 : decide (ps ≤ 8) = false := decide_eq_false (by omega)
      clear h1 h2
      go_wp2_with fail
      go_meet
      exact ⟨HN.out, rfl⟩
    have d2 : decide (ps ≤ 8) = true := decide_eq_true (by omega)
    by_cases h3 : 0 ≤ pt
    case neg =>
      have HN := Lib.hid (mayN_no' (pt := pt) (ps := ps) (n := k) (fun h => h3 h.2.2.1))
      have d3 : decide (0 ≤ pt) = false := decide_eq_false (by omega)
      clear h1 h2 h3
      go_wp2_with fail
      go_meet
      exact ⟨HN.out, rfl⟩
    have d3 : decide (0 ≤ pt) = true := decide_eq_true (by omega)
    by_cases h4 : pt < ps
    case neg =>
      have HN := Lib.hid (mayN_no' (pt := pt) (ps := ps) (n := k) (fun h => h4 h.2.2.2.1))
      have d4 : decide (pt < ps) = false := decide_eq_false (by omega)
      clear h1 h2 h3 h4
      go_wp2_with fail
      go_meet
      exact ⟨HN.out, rfl⟩
    have d4 : decide (pt < ps) = true := decide_eq_true (by omega)
    by_cases h5 : 1 ≤ k
    case neg =>
      have HN := Lib.hid (mayN_no' (pt := pt) (ps := ps) (n := k) (fun h => h5 h.2.2.2.2.1))
      have d5 : decide (1 ≤ (k : Int)) = false := decide_eq_false (by omega)
      clear h1 h2 h3 h4 h5
      go_wp2_with fail
      go_meet
      exact ⟨HN.out, rfl⟩
    have d5 : decide (1 ≤ (k : Int)) = true := decide_eq_true (by omega)
    by_cases h6 : k ≤ 49
    case neg =>
      have HN := Lib.hid (mayN_no' (pt := pt) (ps := ps) (n := k) (fun h => h6 h.2.2.2.2.2.1))
      have d6 : decide ((k : Int) ≤ 49) = false := decide_eq_false (by omega)
      clear h1 h2 h3 h4 h5 h6
      go_wp2_with fail
      go_meet
      exact ⟨HN.out, rfl⟩
    have d6 : decide ((k : Int) ≤ 49) = true := decide_eq_true (by omega)
    by_cases h7 : pt = ps - 1
    · have HN := Lib.hid (mayN_yes' (pt := pt) (ps := ps) (n := k) ⟨h1, h2, h3, h4, h5, h6, .inr h7⟩)
      have d7 : (pt == ps - 1) = true := by simp [h7]
      have hw : wrap64 (ps - 1) = ps - 1 := IntWalk.wrap64_in (ps - 1) (by omega)
      clear h3 h4 h5 h6 h7
      go_wp2_with fail
      go_meet
      exact ⟨HN.out, rfl⟩
    have d7 : (pt == ps - 1) = false := by simpa using h7
    have hw : wrap64 (ps - 1) = ps - 1 := IntWalk.wrap64_in (ps - 1) (by omega)
    by_cases h8 : k = 49
    · have HN := Lib.hid (mayN_yes' (pt := pt) (ps := ps) (n := k) ⟨h1, h2, h3, h4, h5, h6, .inl h8⟩)
      have d8 : ((k : Int) == 49) = true := by simp [h8]
      clear h3 h4 h5 h6 h7 h8
      go_wp2_with fail
      go_meet
      exact ⟨HN.out, rfl⟩
    · have HN := Lib.hid (mayN_no' (pt := pt) (ps := ps) (n := k) (fun h => h.2.2.2.2.2.2.elim h8 h7))
      have d8 : ((k : Int) == 49) = false := by simp; omega
      clear h3 h4 h5 h6 h7 h8
      go_wp2_with fail
      go_meet
      exact ⟨HN.out, rfl⟩
  case rest =>
    obtain ⟨rfl, rfl⟩ := hcut
    have k0 := E2.cell 0 0 rfl rfl
    have k1 := E2.cell 0 1 rfl rfl
    have k2 := E2.cell 0 2 rfl rfl
    have k3 := E2.cell 0 3 rfl rfl
    have k4 := E2.cell 0 4 rfl rfl
    have hml : Cl.may ⟨1, 2, pt, ps, List.replicate k 0⟩ = mayN pt ps k := by rw [may_eq, List.length_replicate]
    cases hm : mayN pt ps k with
    | false =>
      rw [hm] at hml
      have HE := Lib.hid (encL_no hml)
      have HM := Lib.hid hm
      clear hml hm
      go_wp2_with fail
      refine (enc_c (gs := 1) (sq := 2) (by decide) (by decide) hps (E2.i 0 rfl) HE.out.2 HE.out.1 (m := 0) rfl).mono ?_; rintro e w3 ⟨A3, c3, rfl, hi3, hb3⟩
      have E3 := (E2.below hb3).addI hi3
      clear E2 hi3 hb3 k0 k1 k2 k3 k4
      go_wp2_with fail
      refine (dec_c (E3.i 0 rfl) (by decide) Cl.dec_nil.1 Cl.dec_nil.2 (m := 0) rfl).mono ?_; rintro e w4 ⟨A4, c4, rfl, hi4, hb4⟩
      have E4 := (E3.below hb4).alloc 25 #[.int .u32 0, .int .u32 0, .int .i64 0, .int .i64 0, .slice A4 0 c4] rfl
      clear E3 hi4 hb4
      have k0 := E4.cell 1 0 rfl rfl
      have k1 := E4.cell 1 1 rfl rfl
      have k2 := E4.cell 1 2 rfl rfl
      have k3 := E4.cell 1 3 rfl rfl
      have k4 := E4.cell 1 4 rfl rfl
      go_wp2_with fail
      refine (may_c 1 2 pt ps (some ⟨w1.heap.size, 0, none⟩) k k _ hps HM.out).mono ?_; rintro e w5 ⟨rfl, hb5⟩
      have E5 := E4.below hb5
      clear k0 k1 k2 k3 k4 E4 hb5
      go_wp2_with fail
      go_ret
      exact ⟨rfl, E5.bel⟩
    | true =>
      rw [hm] at hml
      have hx : Cl.Ok ⟨1, 2, pt, ps, List.replicate k 0⟩ := ⟨(by omega : 1 < 4294967296), (by omega : 2 < 4294967296), fun x h => by rw [List.eq_of_mem_replicate h]; decide⟩
      have h49 := (mayN_iff.1 hm).2.2.2.2.2.1
      have hlen : (Cl.enc ⟨1, 2, pt, ps, List.replicate k 0⟩).length = 64 := Cl.enc_len (by rw [List.length_replicate]; exact h49)
      have HE := Lib.hid (And.intro (encL_yes hml) (And.intro (Cl.dec_enc hx hml) hlen))
      have HM := Lib.hid hm
      clear hml hm hx h49 hlen
      go_wp2_with fail
      refine (enc_c (gs := 1) (sq := 2) (by decide) (by decide) hps (E2.i 0 rfl) HE.out.1.2 HE.out.1.1 HE.out.2.2).mono ?_; rintro e w3 ⟨A3, c3, rfl, hi3, hb3⟩
      have E3 := (E2.below hb3).addI hi3
      clear E2 hi3 hb3 k0 k1 k2 k3 k4
      go_wp2_with fail
      refine (dec_c (E3.i 0 rfl) (by decide) HE.out.2.1.1 HE.out.2.1.2 (m := k) (by rw [List.length_replicate])).mono ?_; rintro e w4 ⟨A4, c4, rfl, hi4, hb4⟩
      have E4 := ((E3.below hb4).addI hi4).alloc 25 #[.int .u32 1, .int .u32 2, .int .i64 pt, .int .i64 ps, .slice A4 k c4] rfl
      clear E3 hi4 hb4
      have k0 := E4.cell 1 0 rfl rfl
      have k1 := E4.cell 1 1 rfl rfl
      have k2 := E4.cell 1 2 rfl rfl
      have k3 := E4.cell 1 3 rfl rfl
      have k4 := E4.cell 1 4 rfl rfl
      have j2 := E4.cell 0 2 rfl rfl
      have j3 := E4.cell 0 3 rfl rfl
      have j4 := E4.cell 0 4 rfl rfl
      go_wp2_with fail
      refine (rows_c (E4.i 0 rfl) (E4.i 2 rfl) (by omega) (by omega) (r := true) (by simp)).mono ?_; rintro e w5 ⟨rfl, hb5⟩
      have E5 := E4.below hb5
      clear k0 k1 k2 k3 k4 j2 j3 j4 E4 hb5
      have k0 := E5.cell 1 0 rfl rfl
      have k1 := E5.cell 1 1 rfl rfl
      have k2 := E5.cell 1 2 rfl rfl
      have k3 := E5.cell 1 3 rfl rfl
      have k4 := E5.cell 1 4 rfl rfl
      go_wp2_with fail
      refine (may_c 1 2 pt ps (some ⟨w1.heap.size, 0, none⟩) k k _ hps HM.out).mono ?_; rintro e w6 ⟨rfl, hb6⟩
      have E6 := E5.below hb6
      clear k0 k1 k2 k3 k4 E5 hb6
      go_wp2_with fail
      go_ret
      exact ⟨rfl, E6.bel⟩
end Go.Proofs.YtfoeapjlklfjgaaDoor
