/- The contract of ratio.decimal: a number and decimal digits behind a point. No condition but that there are at most 1000 signs. No condition but the reach of a slice. -/
import Derived.Test.YticjhlbmdjijnaaGreatDoorHQLib
import Derived.Test.YticjhlbmdjijnaaGreatDoorHQC
namespace Go.Proofs.YticjhlbmdjijnaaGreatDoor
set_option linter.unusedSimpArgs false
set_option linter.unusedVariables false
open Go.RowKit

theorem Env.only {w0 w : World} {bl : List Bl} {zs zs' : List Zt} (E : Env w0 w bl zs) (h : ∀ x ∈ zs', ZIs w x.b x.A x.n x.c x.z x.k x.p) : Env w0 w bl zs' := ⟨E.bel, E.blk, E.nd, fun _ x hx => h x (List.mem_of_getElem? hx)⟩
theorem nparse_z (l : List Nat) (hl : ∀ x ∈ l, x < 256) (w : World) (h : Reads l) (hn : l.length ≤ 1000) : Calls Tryz.prog 63 #[.string (str l)] w fun e w' => ∃ A3 n3, e = .returned (.tuple #[.slice A3 n3 n3, .bool true]) ∧ ZIs w' false A3 n3 n3 ((dec l : Nat) : Int) 128 true ∧ Below w.heap.size w w' :=
  (parse_ok l hl w h).mono fun _ _ ⟨A, m, he, hm, ho, hb⟩ => ⟨A, m, he, (ZIs.of_own (z := ((dec l : Nat) : Int)) (k := 80002) ho (decide_eq_false (by omega)) hm).tight (by simpa using dec_few h.digs hn), hb⟩
theorem zmul10_few {v d : Nat} {h : List Nat} (hv : dec h = v * 10 + d) (hd : Digs h) (hn : h.length ≤ 1000) : (((v : Nat) : Int) * 10 + (d : Int)) = ((dec h : Nat) : Int) ∧ (((dec h : Nat) : Int)).natAbs < 4294967296 ^ 128 := by
  refine ⟨by rw [hv]; push_cast; rfl, by simpa using dec_few hd hn⟩
theorem ten10_few {k : Nat} (hn : k + 1 ≤ 1000) : ((10 ^ k : Nat) : Int) * 10 = ((10 ^ (k + 1) : Nat) : Int) ∧ (((10 ^ (k + 1) : Nat) : Int)).natAbs < 4294967296 ^ 128 := by
  refine ⟨by rw [Nat.pow_succ]; push_cast; rfl, by simpa using ten_few hn⟩

set_option maxRecDepth 100000 in
set_option maxHeartbeats 6400000 in
theorem qdecimal (h t : List Nat) (hh : ∀ x ∈ h, x < 256) (ht : ∀ x ∈ t, x < 256) (hn : h.length + t.length ≤ 1000) (w : World) : Calls Tryz.prog 61 #[.string (str h), .string (str t)] w fun e w' => ∃ b3 A3 n3 b4 A4 n4, e = .returned (.tuple #[.agg #[.bool b3, .slice A3 n3 n3, .bool b4, .slice A4 n4 n4], .bool (qdok h t)]) ∧ ZIs w' b3 A3 n3 n3 ((qdv h t).num) 128 true ∧ ZIs w' b4 A4 n4 n4 (((qdv h t).den : Nat) : Int) 128 true ∧ Below w.heap.size w w' := by
  have h1 := fun w0 => shead h hh w0
  have h2 := fun w0 => sbod h hh w0
  have hbl := bod_len h
  obtain ⟨T, hT, h3⟩ : ∃ T : ByteArray, T.toList.isEmpty = decide (Digs t) ∧ ∀ w0, Calls Tryz.prog 104 #[.string (str t), .string ⟨#[48, 49, 50, 51, 52, 53, 54, 55, 56, 57]⟩] w0 fun e w' => e = .returned (.string T) ∧ Below w0.heap.size w0 w' := strim_all t ht (by omega)
  obtain ⟨m, hm⟩ : ∃ m, t.length = m := ⟨_, rfl⟩
  have hS : (str t).size = m := by rw [str_size, hm]
  have hE : (str t).toList.isEmpty = decide (m = 0) := str_empty t m hm
  have HG := Lib.hid fun i x hx h => str_get t ht i x hx h
  have HM := Lib.hid hm
  have R0 := (Env.nil_ w).alloc 26 #[.bool false, .slice none 0 0, .bool false, .slice none 0 0] (g := w.heap.size) rfl rfl
  by_cases hrd : ¬ Reads (bod h)
  · have HQ := Lib.hid (qd_no (h := h) (t := t) (fun e => hrd e.1))
    have h4 := fun w0 => parse_bad (bod h) (bod_lt hh) w0 (by omega) hrd
    generalize str t = S at *
    generalize str h = S1 at *
    generalize str (bod h) = S2 at *
    clear hT hS hE hbl hn hrd hm
    go_enter Tryz.func61, Tryz.ntmps61
    go_wp2_with fail
    refine (h1 _).mono ?_; rintro e w1 ⟨rfl, rfl⟩
    go_wp2_with fail
    refine (h2 _).mono ?_; rintro e w2 ⟨rfl, rfl⟩
    go_wp2_with fail
    refine (h4 _).mono ?_; rintro e w1 ⟨rfl, hb1⟩
    have R1 := (R0.below hb1)
    go_wp2_with fail
    refine (qzero _).mono ?_; rintro e w2 ⟨b_p, A_p, n_p, b_q, A_q, n_q, rfl, z_p, z_q, hb2⟩
    have R2 := (((R1.below hb2).add z_p).add z_q)
    have zr0 := R2.cell 0 0 rfl rfl
    have zr1 := R2.cell 0 1 rfl rfl
    have zr2 := R2.cell 0 2 rfl rfl
    have zr3 := R2.cell 0 3 rfl rfl
    have zfr0 := R2.frozen 0 0 rfl
    have zfr1 := R2.frozen 0 1 rfl
    have zfr2 := R2.frozen 0 2 rfl
    have zfr3 := R2.frozen 0 3 rfl
    go_wp2_with fail
    have R9_ := R2.st4 0 (.bool b_p) (.slice A_p n_p n_p) (.bool b_q) (.slice A_q n_q n_q) rfl rfl rfl rfl rfl
    refine bodyPost_ret (results_row_tmp rfl _ _ (w.heap.size) 26 #[.bool b_p, .slice A_p n_p n_p, .bool b_q, .slice A_q n_q n_q] (0, 0) _ rfl (R9_.b 0 rfl).is Tryz.underlying26 rfl (by kernel_rfl)) rfl ?_
    exact ⟨_, _, _, _, _, _, ret_vb (by rw [HQ.out.1]), (by rw [HQ.out.2]; exact (R9_.z 1 rfl).mono (by omega)), (by rw [HQ.out.2]; exact (R9_.z 0 rfl).mono (by omega)), R9_.bel⟩
  have hrd := Classical.not_not.1 hrd
  have hne : h.length ≤ 1000 := by omega
  have h4 := fun w0 => nparse_z (bod h) (bod_lt hh) w0 hrd (by omega)
  by_cases hm0 : m = 0
  · subst hm0
    have HQ := Lib.hid (qd_no (h := h) (t := t) (fun e => by have := e.2.1; rw [HM.out] at this; omega))
    have hE1 : (str t).toList.isEmpty = true := by rw [hE]; exact decide_eq_true rfl
    generalize str t = S at *
    generalize str h = S1 at *
    generalize str (bod h) = S2 at *
    clear hT hS hE hbl hn hrd hm
    go_enter Tryz.func61, Tryz.ntmps61
    go_wp2_with fail
    refine (h1 _).mono ?_; rintro e w1 ⟨rfl, rfl⟩
    go_wp2_with fail
    refine (h2 _).mono ?_; rintro e w2 ⟨rfl, rfl⟩
    go_wp2_with fail
    refine (h4 _).mono ?_; rintro e w1 ⟨A_n, n_n, rfl, z_n, hb1⟩
    have R1 := R0.below hb1
    go_wp2_with fail
    refine (qzero _).mono ?_; rintro e w2 ⟨b_p, A_p, n_p, b_q, A_q, n_q, rfl, z_p, z_q, hb2⟩
    have R2 := (((R1.below hb2).add z_p).add z_q)
    have zr0 := R2.cell 0 0 rfl rfl
    have zr1 := R2.cell 0 1 rfl rfl
    have zr2 := R2.cell 0 2 rfl rfl
    have zr3 := R2.cell 0 3 rfl rfl
    have zfr0 := R2.frozen 0 0 rfl
    have zfr1 := R2.frozen 0 1 rfl
    have zfr2 := R2.frozen 0 2 rfl
    have zfr3 := R2.frozen 0 3 rfl
    go_wp2_with fail
    have R9_ := R2.st4 0 (.bool b_p) (.slice A_p n_p n_p) (.bool b_q) (.slice A_q n_q n_q) rfl rfl rfl rfl rfl
    refine bodyPost_ret (results_row_tmp rfl _ _ (w.heap.size) 26 #[.bool b_p, .slice A_p n_p n_p, .bool b_q, .slice A_q n_q n_q] (0, 0) _ rfl (R9_.b 0 rfl).is Tryz.underlying26 rfl (by kernel_rfl)) rfl ?_
    exact ⟨_, _, _, _, _, _, ret_vb (by rw [HQ.out.1]), (by rw [HQ.out.2]; exact (R9_.z 1 rfl).mono (by omega)), (by rw [HQ.out.2]; exact (R9_.z 0 rfl).mono (by omega)), R9_.bel⟩
  have hE1 : (str t).toList.isEmpty = false := by rw [hE]; exact decide_eq_false hm0
  by_cases hdg : ¬ Digs t
  · have HQ := Lib.hid (qd_no (h := h) (t := t) (fun e => hdg e.2.2))
    rw [decide_eq_false hdg] at hT
    generalize str t = S at *
    generalize str h = S1 at *
    generalize str (bod h) = S2 at *
    clear hS hE hbl hn hrd hm hdg
    go_enter Tryz.func61, Tryz.ntmps61
    go_wp2_with fail
    refine (h1 _).mono ?_; rintro e w1 ⟨rfl, rfl⟩
    go_wp2_with fail
    refine (h2 _).mono ?_; rintro e w2 ⟨rfl, rfl⟩
    go_wp2_with fail
    refine (h4 _).mono ?_; rintro e w1 ⟨A_n, n_n, rfl, z_n, hb1⟩
    have R1 := R0.below hb1
    go_wp2_with fail
    refine (h3 _).mono ?_; rintro e w2 ⟨rfl, hb2⟩
    have R2 := (R1.below hb2)
    go_wp2_with fail
    refine (qzero _).mono ?_; rintro e w3 ⟨b_p, A_p, n_p, b_q, A_q, n_q, rfl, z_p, z_q, hb3⟩
    have R3 := (((R2.below hb3).add z_p).add z_q)
    have zr0 := R3.cell 0 0 rfl rfl
    have zr1 := R3.cell 0 1 rfl rfl
    have zr2 := R3.cell 0 2 rfl rfl
    have zr3 := R3.cell 0 3 rfl rfl
    have zfr0 := R3.frozen 0 0 rfl
    have zfr1 := R3.frozen 0 1 rfl
    have zfr2 := R3.frozen 0 2 rfl
    have zfr3 := R3.frozen 0 3 rfl
    go_wp2_with fail
    have R9_ := R3.st4 0 (.bool b_p) (.slice A_p n_p n_p) (.bool b_q) (.slice A_q n_q n_q) rfl rfl rfl rfl rfl
    refine bodyPost_ret (results_row_tmp rfl _ _ (w.heap.size) 26 #[.bool b_p, .slice A_p n_p n_p, .bool b_q, .slice A_q n_q n_q] (0, 0) _ rfl (R9_.b 0 rfl).is Tryz.underlying26 rfl (by kernel_rfl)) rfl ?_
    exact ⟨_, _, _, _, _, _, ret_vb (by rw [HQ.out.1]), (by rw [HQ.out.2]; exact (R9_.z 1 rfl).mono (by omega)), (by rw [HQ.out.2]; exact (R9_.z 0 rfl).mono (by omega)), R9_.bel⟩
  have hdg := Classical.not_not.1 hdg
  have HQ := Lib.hid (qd_yes hrd (show 1 ≤ t.length by rw [hm]; omega) hdg)
  rw [decide_eq_true hdg] at hT
  have HD := Lib.hid (And.intro hrd (And.intro hdg (And.intro hn hbl)))
  generalize hneg : decide (h[0]? = some 45) = neg at *
  have HN := Lib.hid hneg
  generalize str t = S at *
  generalize str h = S1 at *
  generalize str (bod h) = S2 at *
  have hm1000 : m ≤ 1000 := by rw [← hm]; omega
  clear hE hbl hn hrd hm hdg hneg hm0
  go_enter Tryz.func61, Tryz.ntmps61
  go_wp2_with fail
  refine (h1 _).mono ?_; rintro e w1 ⟨rfl, rfl⟩
  go_wp2_with fail
  refine (h2 _).mono ?_; rintro e w2 ⟨rfl, rfl⟩
  go_wp2_with fail
  refine (h4 _).mono ?_; rintro e w1 ⟨A_n, n_n, rfl, z_n, hb1⟩
  have R1 := (R0.below hb1).add z_n
  go_wp2_with fail
  refine (h3 _).mono ?_; rintro e w2 ⟨rfl, hb2⟩
  have R2 := (R1.below hb2)
  go_wp2_with fail
  refine (qone _).mono ?_; rintro e w3 ⟨b_o, A_o, n_o, rfl, z_o, hb3⟩
  have R3 := ((((R2.below hb3).add z_o).alloc 24 #[.bool false, .slice A_n n_n n_n] (g := w3.heap.size) rfl rfl).alloc 24 #[.bool b_o, .slice A_o n_o n_o] (g := w3.heap.size + 1) (by simp) rfl)
  clear h1 h2 h3 h4
  go_wp2_with fail
  go_loopw [38] (fun v wr => ∃ (k : Nat) (b1 : Bool) (A1 : Option Addr) (n1 : Nat) (b2 : Bool) (A2 : Option Addr) (n2 : Nat), k ≤ m ∧ v = .int .i64 k ∧ Env w wr [(w3.heap.size + 1, 24, #[.bool b2, .slice A2 n2 n2]), (w3.heap.size, 24, #[.bool b1, .slice A1 n1 n1]), (w.heap.size, 26, #[.bool false, .slice none 0 0, .bool false, .slice none 0 0])] [⟨b2, A2, n2, n2, ((10 ^ k : Nat) : Int), 128, true⟩, ⟨b1, A1, n1, n1, ((dec (bod h ++ t.take k) : Nat) : Int), 128, true⟩]) (fun v _ => m - (intOf v).toNat)
  case atStart =>
    refine ⟨0, false, A_n, n_n, b_o, A_o, n_o, Nat.zero_le _, rfl, R3.only ?_⟩
    intro x hx
    simp only [List.mem_cons, List.not_mem_nil, or_false] at hx
    rcases hx with rfl | rfl
    · exact ((R3.z 0 rfl) : ZIs _ b_o A_o n_o n_o 1 1 true).mono (show 1 ≤ 128 by omega)
    · dsimp only; rw [List.take_zero, List.append_nil]; exact (R3.z 1 rfl)
  case round =>
    obtain ⟨k, b1, A1, n1, b2, A2, n2, hk, rfl, E⟩ := hrel
    clear R0 R1 R2 R3 z_n z_o
    by_cases hkm : k < m
    · obtain ⟨c, hc⟩ : ∃ c, t[k]? = some c := ⟨_, List.getElem?_eq_getElem (by rw [HM.out]; exact hkm)⟩
      have hcd := HD.out.2.1 c (List.mem_of_getElem? hc)
      have hgi := fun h => HG.out k c hc h
      obtain ⟨dd, hdd⟩ : ∃ dd, c - 48 = dd := ⟨_, rfl⟩
      have hsub : (c : Int) - 48 = (dd : Int) := by omega
      have hd9 : dd ≤ 9 := by omega
      have hd0 : decide ((dd : Int) < 0) = false := decide_eq_false (by omega)
      have hd1 : decide (10 ≤ (dd : Int)) = false := decide_eq_false (by omega)
      have hlt : (k : Int) < (m : Int) := by omega
      have hc48 : (48 : Int) ≤ (c : Int) := by omega
      have hc57 : (c : Int) ≤ 57 := by omega
      have hst := dec_step (h := bod h) hc
      rw [hdd] at hst
      have hl1000 : (bod h ++ t.take (k + 1)).length ≤ 1000 := by have h5 := HD.out.2.2; rw [List.length_append, List.length_take]; omega
      have HZ := Lib.hid (zmul10_few hst (digs_app HD.out.1.digs (digs_take HD.out.2.1 (k + 1))) hl1000)
      have HT := Lib.hid (ten10_few (k := k) (by omega))
      clear hc hdd hst hl1000
      go_wp2_with fail
      have D4 := E.drew
      have s4 := And.intro (D4.cell 0 0 rfl rfl) (And.intro (D4.cell 0 1 rfl rfl) (And.intro (D4.cell 1 0 rfl rfl) (D4.cell 1 1 rfl rfl)))
      refine wp_region_late [9, 10] (fun w' => w'.cell? ⟨w3.heap.size + 1, 0, none⟩ = some (.bool b2) ∧ w'.cell? ⟨w3.heap.size + 1, 1, none⟩ = some (.slice A2 n2 n2) ∧ w'.cell? ⟨w3.heap.size, 0, none⟩ = some (.bool b1) ∧ w'.cell? ⟨w3.heap.size, 1, none⟩ = some (.slice A1 n1 n1)) (by kernel_rfl) ?_
      refine wpAnyL_take (i := 0) (v := .agg #[.bool b1, .slice A1 n1 n1]) rfl (by kernel_rfl) (by kernel_rfl) (by kernel_rfl) (by kernel_rfl) (by kernel_rfl) (fun _ _ _ h => h) (Or.inl ⟨by rfl, by rintro w' ⟨h1, h2, h3, h4⟩; go_simp⟩) s4 ?_
      try simp only [Act.put, List.setIfInBounds_toArray, List.set_cons_zero, List.set_cons_succ]
      refine wpAnyL_take (i := 3) (v := ?_) rfl (by kernel_rfl) (by kernel_rfl) (by kernel_rfl) (by kernel_rfl) (by kernel_rfl) (fun _ _ _ h => h) (Or.inl ⟨by kernel_rfl, ?_⟩) s4 ?_
      rotate_left
      · rintro w' ⟨h1, h2, h3, h4⟩; go_simp; (try with_reducible rfl)
      try simp only [Act.put, List.setIfInBounds_toArray, List.set_cons_zero, List.set_cons_succ]
      refine wpAnyL_take (i := 6) (v := .agg #[.bool b2, .slice A2 n2 n2]) rfl (by kernel_rfl) (by kernel_rfl) (by kernel_rfl) (by kernel_rfl) (by kernel_rfl) (fun _ _ _ h => h) (Or.inl ⟨by rfl, by rintro w' ⟨h1, h2, h3, h4⟩; go_simp⟩) s4 ?_
      try simp only [Act.put, List.setIfInBounds_toArray, List.set_cons_zero, List.set_cons_succ]
      refine wpAnyL_one (i := 1) (by kernel_rfl) rfl (fun K hK => ?_)
      go_simp
      refine (zof 10 _ (by decide) (by decide)).mono ?_; rintro e w5 ⟨b_t1, A_t1, n_t1, rfl, z_t1, hb5⟩
      have R5 := ((D4.below hb5).add z_t1)
      have s5 := And.intro (R5.cell 0 0 rfl rfl) (And.intro (R5.cell 0 1 rfl rfl) (And.intro (R5.cell 1 0 rfl rfl) (R5.cell 1 1 rfl rfl)))
      go_wp2_with fail
      refine hK.out _ _ (fun _ => s5) ?_
      clear hK K
      try simp only [Act.put, List.setIfInBounds_toArray, List.set_cons_zero, List.set_cons_succ]
      refine wpAnyL_one (i := 2) (by kernel_rfl) rfl (fun K hK => ?_)
      go_simp
      refine (zmul (K := 130) (R5.z 2 rfl) (R5.z 0 rfl) (by omega) (by omega) (by omega)).mono ?_; rintro e w6 ⟨b_m1, A_m1, n_m1, rfl, z_m1, hb6⟩
      have R6 := ((R5.below hb6).add z_m1)
      have s6 := And.intro (R6.cell 0 0 rfl rfl) (And.intro (R6.cell 0 1 rfl rfl) (And.intro (R6.cell 1 0 rfl rfl) (R6.cell 1 1 rfl rfl)))
      go_wp2_with fail
      refine hK.out _ _ (fun _ => s6) ?_
      clear hK K
      try simp only [Act.put, List.setIfInBounds_toArray, List.set_cons_zero, List.set_cons_succ]
      refine wpAnyL_one (i := 4) (by kernel_rfl) rfl (fun K hK => ?_)
      go_simp
      refine (zof (dd : Int) _ (by omega) (by omega)).mono ?_; rintro e w7 ⟨b_t2, A_t2, n_t2, rfl, z_t2, hb7⟩
      have R7 := ((R6.below hb7).add z_t2)
      have s7 := And.intro (R7.cell 0 0 rfl rfl) (And.intro (R7.cell 0 1 rfl rfl) (And.intro (R7.cell 1 0 rfl rfl) (R7.cell 1 1 rfl rfl)))
      go_wp2_with fail
      refine hK.out _ _ (fun _ => s7) ?_
      clear hK K
      try simp only [Act.put, List.setIfInBounds_toArray, List.set_cons_zero, List.set_cons_succ]
      refine wpAnyL_one (i := 5) (by kernel_rfl) rfl (fun K hK => ?_)
      go_simp
      refine (zadd (K := 131) (R7.z 1 rfl) (R7.z 0 rfl) (by omega) (by omega) (by decide)).mono ?_; rintro e w8 ⟨b_s, A_s, n_s, rfl, z_s, hb8⟩
      have R8 := ((R7.below hb8).add z_s)
      have s8 := And.intro (R8.cell 0 0 rfl rfl) (And.intro (R8.cell 0 1 rfl rfl) (And.intro (R8.cell 1 0 rfl rfl) (R8.cell 1 1 rfl rfl)))
      go_wp2_with fail
      refine hK.out _ _ (fun _ => s8) ?_
      clear hK K
      try simp only [Act.put, List.setIfInBounds_toArray, List.set_cons_zero, List.set_cons_succ]
      refine wpAnyL_one (i := 7) (by kernel_rfl) rfl (fun K hK => ?_)
      go_simp
      refine (zof 10 _ (by decide) (by decide)).mono ?_; rintro e w9 ⟨b_t3, A_t3, n_t3, rfl, z_t3, hb9⟩
      have R9 := ((R8.below hb9).add z_t3)
      have s9 := And.intro (R9.cell 0 0 rfl rfl) (And.intro (R9.cell 0 1 rfl rfl) (And.intro (R9.cell 1 0 rfl rfl) (R9.cell 1 1 rfl rfl)))
      go_wp2_with fail
      refine hK.out _ _ (fun _ => s9) ?_
      clear hK K
      try simp only [Act.put, List.setIfInBounds_toArray, List.set_cons_zero, List.set_cons_succ]
      refine wpAnyL_one (i := 8) (by kernel_rfl) rfl (fun K hK => ?_)
      go_simp
      refine (zmul (K := 130) (R9.z 5 rfl) (R9.z 0 rfl) (by omega) (by omega) (by omega)).mono ?_; rintro e w10 ⟨b_p, A_p, n_p, rfl, z_p, hb10⟩
      have R10 := ((R9.below hb10).add z_p)
      have s10 := And.intro (R10.cell 0 0 rfl rfl) (And.intro (R10.cell 0 1 rfl rfl) (And.intro (R10.cell 1 0 rfl rfl) (R10.cell 1 1 rfl rfl)))
      go_wp2_with fail
      refine hK.out _ _ (fun _ => s10) ?_
      clear hK K
      try simp only [Act.put, List.setIfInBounds_toArray, List.set_cons_zero, List.set_cons_succ]
      have fcnum0 := R10.cell 1 0 rfl rfl
      have ffnum0 := R10.frozen 1 0 rfl
      have fcnum1 := R10.cell 1 1 rfl rfl
      have ffnum1 := R10.frozen 1 1 rfl
      have fcden0 := R10.cell 0 0 rfl rfl
      have ffden0 := R10.frozen 0 0 rfl
      have fcden1 := R10.cell 0 1 rfl rfl
      have ffden1 := R10.frozen 0 1 rfl
      refine wpAnyL_one (i := 9) (by kernel_rfl) rfl (fun K hK => ?_)
      go_simp
      refine hK.out _ _ (fun h => absurd (by simp) h) ?_
      clear hK K
      try simp only [Act.put, List.setIfInBounds_toArray, List.set_cons_zero, List.set_cons_succ]
      refine wpAnyL_one (i := 10) (by kernel_rfl) rfl (fun K hK => ?_)
      go_simp
      refine hK.out _ _ (fun h => absurd (by simp) h) ?_
      clear hK K
      try simp only [Act.put, List.setIfInBounds_toArray, List.set_cons_zero, List.set_cons_succ]
      refine wpAnyL_done (by kernel_rfl) ?_ _
      clear fcnum0 ffnum0 fcnum1 ffnum1 fcden0 ffden0 fcden1 ffden1
      have R11 := ((R10.st2 1 (.bool b_s) (.slice A_s n_s n_s) rfl rfl rfl).st2 0 (.bool b_p) (.slice A_p n_p n_p) rfl rfl rfl)
      generalize ((((w10.setCell ⟨w3.heap.size, 0, none⟩ (.bool b_s)).setCell ⟨w3.heap.size, 1, none⟩ (.slice A_s n_s n_s)).setCell ⟨w3.heap.size + 1, 0, none⟩ (.bool b_p)).setCell ⟨w3.heap.size + 1, 1, none⟩ (.slice A_p n_p n_p)) = w11 at *
      go_wp2_with fail
      refine ⟨⟨k + 1, b_s, A_s, n_s, b_p, A_p, n_p, by omega, by go_num, R11.only ?_⟩, by simp [intOf]; omega⟩
      intro x hx
      simp only [List.mem_cons, List.not_mem_nil, or_false] at hx
      rcases hx with rfl | rfl
      · exact (R11.z 0 rfl).as_t HT.out.1 HT.out.2
      · exact (R11.z 2 rfl).as_t HZ.out.1 HZ.out.2
    · obtain rfl : k = m := by omega
      have htk : t.take k = t := List.take_of_length_le (Nat.le_of_eq HM.out)
      rw [htk] at E
      have z2 := E.z 0 rfl
      have z1 := (E.z 1 rfl).resign neg
      rw [show (((dec (bod h ++ t) : Nat) : Int)).natAbs = dec (bod h ++ t) from rfl] at z1
      have hpos : (0 : Int) < ((10 ^ k : Nat) : Int) := by have := Nat.pow_pos (n := k) (show 0 < 10 by decide); omega
      have hq2 := HQ.out.2
      rw [HM.out, ← HM.out, ← dec_append, HM.out, qv_pos hpos] at hq2
      have hl1000 : (bod h ++ t).length ≤ 1000 := by have h5 := HD.out.2.2; have := HM.out; rw [List.length_append]; omega
      have hnf : (zv neg (dec (bod h ++ t))).natAbs < 4294967296 ^ 128 := by rw [zv_abs]; exact dec_few (digs_app HD.out.1.digs HD.out.2.1) hl1000
      have hdf : (((10 ^ k : Nat) : Int)).natAbs < 4294967296 ^ 128 := by simpa using ten_few hm1000
      have HV := Lib.hid (And.intro hq2 (And.intro hpos (And.intro (qnum_lt hpos hnf) (qden_lt (x := zv neg (dec (bod h ++ t))) hpos hdf))))
      have E1 := (E.set 1 0 (.bool neg) rfl rfl).only (zs' := [⟨b2, A2, n2, n2, ((10 ^ k : Nat) : Int), 128, true⟩, ⟨neg, A1, n1, n1, zv neg (dec (bod h ++ t)), 128, false⟩]) (by
        intro x hx
        simp only [List.mem_cons, List.not_mem_nil, or_false] at hx
        rcases hx with rfl | rfl
        · exact (E.set 1 0 (.bool neg) rfl rfl).z 0 rfl
        · exact ((E.set 1 0 (.bool neg) rfl rfl).z 1 rfl).resign neg)
      have HE := Lib.hid E1
      have kn0 := E.cell 1 0 rfl rfl
      have kn1 := E.cell 1 1 rfl rfl
      have kd0 := E.cell 0 0 rfl rfl
      have kd1 := E.cell 0 1 rfl rfl
      have kf0 := E.frozen 1 0 rfl
      clear z1 z2 hpos hq2 hl1000 hnf hdf htk E E1 HD
      go_wp2_with fail
      have E := HE.out
      clear kn0 kn1 kd0 kd1 kf0 HE
      refine (qby (E.z 1 rfl) (E.z 0 rfl) (by omega) (by omega) (Int.ne_of_gt HV.out.2.1) HV.out.1.symm).mono ?_; rintro e w91 ⟨b_p, A_p, n_p, b_q, A_q, n_q, rfl, z_p, z_q, hb91⟩
      have R91 := (((E.below hb91).add z_p).add z_q)
      have zr0 := R91.cell 2 0 rfl rfl
      have zr1 := R91.cell 2 1 rfl rfl
      have zr2 := R91.cell 2 2 rfl rfl
      have zr3 := R91.cell 2 3 rfl rfl
      have zfr0 := R91.frozen 2 0 rfl
      have zfr1 := R91.frozen 2 1 rfl
      have zfr2 := R91.frozen 2 2 rfl
      have zfr3 := R91.frozen 2 3 rfl
      go_wp2_with fail
      have R9_ := R91.st4 2 (.bool b_p) (.slice A_p n_p n_p) (.bool b_q) (.slice A_q n_q n_q) rfl rfl rfl rfl rfl
      refine bodyPost_ret (results_row_tmp rfl _ _ (w.heap.size) 26 #[.bool b_p, .slice A_p n_p n_p, .bool b_q, .slice A_q n_q n_q] (0, 0) _ rfl (R9_.b 2 rfl).is Tryz.underlying26 rfl (by kernel_rfl)) rfl ?_
      have hv := HV.out
      rw [← hv.1] at hv
      exact ⟨_, _, _, _, _, _, ret_vb HQ.out.1.symm, (R9_.z 1 rfl).tight hv.2.2.1, (R9_.z 0 rfl).tight hv.2.2.2, R9_.bel⟩
end Go.Proofs.YticjhlbmdjijnaaGreatDoor
