/- The law CellCodes, walked. No condition but the reach of a slice. -/
import Derived.Test.YtfoeapjlklfjgaaDoorCellN
import Derived.Deep.DeepCutAuto
namespace Go.Proofs.YtfoeapjlklfjgaaDoor
set_option linter.unusedSimpArgs false
set_option linter.unusedVariables false
open Go.RowKit

theorem CE.tail2 {w0 w : World} {a b : Bk} {bl : List Bk} {is : List It} {rs : List Rt} (E : CE w0 w (a :: b :: bl) is rs) : CE w0 w bl is rs :=
  ⟨E.bel, fun i g t cs h => E.blk (i + 2) g t cs (by simpa using h), E.ints, E.rds⟩
theorem Cl.dec_in {l : List Nat} (hl : ∀ x ∈ l, x < 256) : (Cl.dec l).gen < 4294967296 ∧ (Cl.dec l).seq < 4294967296 ∧ (-9223372036854775808 ≤ (Cl.dec l).part ∧ (Cl.dec l).part ≤ 9223372036854775807) ∧ (-9223372036854775808 ≤ (Cl.dec l).parts ∧ (Cl.dec l).parts ≤ 9223372036854775807) ∧ (Cl.dec l).data.length ≤ l.length := by
  have hok := Cl.dec_ok hl
  refine ⟨hok.gen, hok.seq, ?_⟩
  have hd : ∀ k, (l.getD k 0) < 256 := fun k => by
    rw [List.getD_eq_getElem?_getD]
    cases h : l[k]? with
    | none => decide
    | some x => exact hl x (List.mem_of_getElem? h)
  unfold Cl.dec
  split
  · refine ⟨?_, ?_, ?_⟩
    · show -9223372036854775808 ≤ ((l.getD 12 0 : Nat) : Int) ∧ ((l.getD 12 0 : Nat) : Int) ≤ 9223372036854775807
      have := hd 12; omega
    · show -9223372036854775808 ≤ ((l.getD 13 0 : Nat) : Int) ∧ ((l.getD 13 0 : Nat) : Int) ≤ 9223372036854775807
      have := hd 13; omega
    · show ((l.drop 15).take (l.getD 14 0)).length ≤ l.length
      rw [List.length_take, List.length_drop]; omega
  · refine ⟨by decide, by decide, Nat.zero_le _⟩
theorem crd_lit {w : World} {e : CEl} {cs : Array Value} (h : e.In w) (hcs : cs = e.vs.toArray) {g : Nat} (hg : g = w.heap.size) : CRd (w.alloc (.cells cs 25)) (some ⟨g, 0, none⟩) 1 1 [e] := by
  subst hcs; exact crd_one h hg
theorem cl_in {dg ds dm : Nat} {dp dq : Int} {dd : List Nat} (h : dg < 4294967296 ∧ ds < 4294967296 ∧ (-9223372036854775808 ≤ dp ∧ dp ≤ 9223372036854775807) ∧ (-9223372036854775808 ≤ dq ∧ dq ≤ 9223372036854775807) ∧ dm ≤ 1000) {W : World} {A' : Option Addr} {c' : Nat} (hi : Ints W .u8 256 A' dm c' dd) : CEl.In W ⟨⟨dg, ds, dp, dq, dd⟩, A', dm, c'⟩ :=
  ⟨hi, h.1, h.2.1, h.2.2.1, h.2.2.2.1, by have := h.2.2.2.2; show dm ≤ _; omega⟩
set_option maxRecDepth 100000 in
set_option maxHeartbeats 12800000 in
theorem cellCodes_any (gs sq : Nat) (pt ps : Int) (A : Option Addr) (n c : Nat) (l : List Nat) (B : Option Addr) (m d : Nat) (k : List Nat) (w : World) (hX : CEl.Lim w ⟨⟨gs, sq, pt, ps, l⟩, A, n, c⟩) (hr : Ints w .u8 256 B m d k) (hm : m ≤ maxLen) :
    Calls Tryd.prog 3 #[.agg #[.int .u32 (gs : Int), .int .u32 (sq : Int), .int .i64 pt, .int .i64 ps, .slice A n c], .slice B m d] w fun e w' => e = .returned (.bool true) ∧ Below w.heap.size w w' := by
  have hgs := hX.gen
  have hsq := hX.seq
  have hps := hX.parts
  have hpts := hX.part
  have hok := hX.ok
  have hlen := hX.ints.len
  dsimp only at hgs hsq hps hok hlen hpts
  have hml : Cl.may ⟨gs, sq, pt, ps, l⟩ = mayN pt ps n := by rw [may_eq, hlen]
  have E0 := (((CE.nil_ w).addI hr).addI hX.ints).alloc 25 #[.int .u32 (gs : Int), .int .u32 (sq : Int), .int .i64 pt, .int .i64 ps, .slice A n c] rfl
  dsimp only at E0
  clear hX
  have HO := Lib.hid hok
  clear hok
  by_cases h1 : 1000 < n
  · have h1i : (1000 : Int) < (n : Int) := by omega
    go_enter Tryd.func3, Tryd.ntmps3
    go_wp2_with fail
    refine (cawake_any _).mono ?_; rintro e w1 ⟨rfl, hb1⟩
    have E1 := E0.below hb1
    have k4 := E1.cell 0 4 rfl rfl
    go_wp2_with fail
    go_ret
    exact ⟨rfl, E1.bel⟩
  have h1i : ¬ (1000 : Int) < (n : Int) := by omega
  have h1d : decide ((1000 : Int) < (n : Int)) = false := decide_eq_false h1i
  by_cases h2 : 1000 < m
  · have h2i : (1000 : Int) < (m : Int) := by omega
    have h2d : decide ((1000 : Int) < (m : Int)) = true := decide_eq_true h2i
    go_enter Tryd.func3, Tryd.ntmps3
    go_wp2_with fail
    refine (cawake_any _).mono ?_; rintro e w1 ⟨rfl, hb1⟩
    have E1 := E0.below hb1
    have k4 := E1.cell 0 4 rfl rfl
    go_wp2_with fail
    go_ret
    exact ⟨rfl, E1.bel⟩
  have h2i : ¬ (1000 : Int) < (m : Int) := by omega
  have h2d : decide ((1000 : Int) < (m : Int)) = false := decide_eq_false h2i
  obtain ⟨cd, hcd⟩ : ∃ x, Cl.encCode ⟨gs, sq, pt, ps, l⟩ = x := ⟨_, rfl⟩
  obtain ⟨L, hL⟩ : ∃ x, Cl.encL ⟨gs, sq, pt, ps, l⟩ = x := ⟨_, rfl⟩
  obtain ⟨q, hq⟩ : ∃ x, L.length = x := ⟨_, rfl⟩
  have hq64 : q ≤ 64 := by
    rw [← hq, ← hL]
    unfold Cl.encL
    split
    · next h => rw [Cl.enc_len ((Cl.may_iff.1 h).2.2.2.2.2.1)]; exact Nat.le_refl _
    · exact Nat.zero_le _
  have hdin := Cl.dec_in (l := k) hr.lt
  have hkl := hr.len
  obtain ⟨dcl, hdec⟩ : ∃ x, Cl.dec k = x := ⟨_, rfl⟩
  obtain ⟨dcd, hdcd⟩ : ∃ x, Cl.code k = x := ⟨_, rfl⟩
  rw [hdec] at hdin
  obtain ⟨dg, ds, dp, dq, dd⟩ := dcl
  obtain ⟨dm, hdm⟩ : ∃ x, dd.length = x := ⟨_, rfl⟩
  dsimp only at hdin
  rw [hdm] at hdin
  have hdm2 : dm ≤ 1000 := by omega
  have HI := Lib.hid (show dg < 4294967296 ∧ ds < 4294967296 ∧ (-9223372036854775808 ≤ dp ∧ dp ≤ 9223372036854775807) ∧ (-9223372036854775808 ≤ dq ∧ dq ≤ 9223372036854775807) ∧ dm ≤ 1000 from ⟨hdin.1, hdin.2.1, hdin.2.2.1, hdin.2.2.2.1, hdm2⟩)
  have HE := Lib.hid (And.intro hcd (And.intro hL (And.intro hq (And.intro hdec (And.intro hdcd hdm)))))
  have HML := Lib.hid hml
  have hdne : (dcd != dcd) = false := by simp
  have hcne : (cd != cd) = false := by simp
  clear hcd hL hq hdec hdcd hdm hdin hr hkl hml
  go_enter Tryd.func3, Tryd.ntmps3
  go_wp2_with fail
  refine (cawake_any _).mono ?_; rintro e w1 ⟨rfl, hb1⟩
  have E1 := E0.below hb1
  clear E0 hb1
  have k0 := E1.cell 0 0 rfl rfl
  have k1 := E1.cell 0 1 rfl rfl
  have k2 := E1.cell 0 2 rfl rfl
  have k3 := E1.cell 0 3 rfl rfl
  have k4 := E1.cell 0 4 rfl rfl
  go_wp2_with fail
  refine (enc_c hgs hsq hps (E1.i 0 rfl) HE.out.1 HE.out.2.1 HE.out.2.2.1).mono ?_; rintro e w2 ⟨A2, c2, rfl, hi2, hb2⟩
  have E2 := (E1.below hb2).addI hi2
  clear E1 hi2 hb2 k0 k1 k2 k3 k4
  have k0 := E2.cell 0 0 rfl rfl
  have k1 := E2.cell 0 1 rfl rfl
  have k2 := E2.cell 0 2 rfl rfl
  have k3 := E2.cell 0 3 rfl rfl
  have k4 := E2.cell 0 4 rfl rfl
  go_wp2_with fail
  refine (renc_c hgs hsq hps (E2.i 1 rfl) HE.out.1 HE.out.2.1 HE.out.2.2.1).mono ?_; rintro e w3 ⟨A3, c3, rfl, hi3, hb3⟩
  have E3 := (E2.below hb3).addI hi3
  clear E2 hi3 hb3 k0 k1 k2 k3 k4
  go_wp2_with fail
  refine (dec_c (E3.i 3 rfl) (by omega) HE.out.2.2.2.1 HE.out.2.2.2.2.1 HE.out.2.2.2.2.2).mono ?_; rintro e w4 ⟨A4, c4, rfl, hi4, hb4⟩
  have E4 := ((E3.below hb4).addI hi4).alloc 25 #[.int .u32 (dg : Int), .int .u32 (ds : Int), .int .i64 dp, .int .i64 dq, .slice A4 dm c4] (g := w4.heap.size) rfl
  clear E3 hi4 hb4
  go_wp2_with fail
  refine (rdec_c (E4.i 4 rfl) (by omega) HE.out.2.2.2.1 HE.out.2.2.2.2.1 HE.out.2.2.2.2.2).mono ?_; rintro e w5 ⟨A5, c5, rfl, hi5, hb5⟩
  have E5 := ((E4.below hb5).addI hi5).alloc 25 #[.int .u32 (dg : Int), .int .u32 (ds : Int), .int .i64 dp, .int .i64 dq, .slice A5 dm c5] (g := w5.heap.size) rfl
  clear E4 hi5 hb5
  obtain ⟨mb, hmb⟩ : ∃ x, mayN pt ps n = x := ⟨_, rfl⟩
  have hmne : (mb != mb) = false := by simp
  have HM := Lib.hid hmb
  clear hmb
  go_upto_region 9 with (fail)
  go_cut [74] (fun v wx => v = .bool false ∧ CE w wx [(w5.heap.size, 25, #[.int .u32 (dg : Int), .int .u32 (ds : Int), .int .i64 dp, .int .i64 dq, .slice A5 dm c5]), (w4.heap.size, 25, #[.int .u32 (dg : Int), .int .u32 (ds : Int), .int .i64 dp, .int .i64 dq, .slice A4 dm c4]), (w.heap.size, 25, #[.int .u32 (gs : Int), .int .u32 (sq : Int), .int .i64 pt, .int .i64 ps, .slice A n c])] [⟨A5, dm, c5, dd⟩, ⟨A4, dm, c4, dd⟩, ⟨A3, q, c3, L⟩, ⟨A2, q, c2, L⟩, ⟨A, n, c, l⟩, ⟨B, m, d, k⟩] [])
  case first =>
    refine wp_region_late [] (fun w' => w'.cell? ⟨w.heap.size, 0, none⟩ = some (.int .u32 (gs : Int)) ∧ w'.cell? ⟨w.heap.size, 1, none⟩ = some (.int .u32 (sq : Int)) ∧ w'.cell? ⟨w.heap.size, 2, none⟩ = some (.int .i64 pt) ∧ w'.cell? ⟨w.heap.size, 3, none⟩ = some (.int .i64 ps) ∧ w'.cell? ⟨w.heap.size, 4, none⟩ = some (.slice A n c) ∧ w'.cell? ⟨w4.heap.size, 0, none⟩ = some (.int .u32 (dg : Int)) ∧ w'.cell? ⟨w4.heap.size, 1, none⟩ = some (.int .u32 (ds : Int)) ∧ w'.cell? ⟨w4.heap.size, 2, none⟩ = some (.int .i64 dp) ∧ w'.cell? ⟨w4.heap.size, 3, none⟩ = some (.int .i64 dq) ∧ w'.cell? ⟨w4.heap.size, 4, none⟩ = some (.slice A4 dm c4) ∧ w'.cell? ⟨w5.heap.size, 0, none⟩ = some (.int .u32 (dg : Int)) ∧ w'.cell? ⟨w5.heap.size, 1, none⟩ = some (.int .u32 (ds : Int)) ∧ w'.cell? ⟨w5.heap.size, 2, none⟩ = some (.int .i64 dp) ∧ w'.cell? ⟨w5.heap.size, 3, none⟩ = some (.int .i64 dq) ∧ w'.cell? ⟨w5.heap.size, 4, none⟩ = some (.slice A5 dm c5)) (by kernel_rfl) ?_
    have D6 := E5.drew
    generalize World.drew _ = w6 at *
    have s6 := And.intro (D6.cell 2 0 rfl rfl) (And.intro (D6.cell 2 1 rfl rfl) (And.intro (D6.cell 2 2 rfl rfl) (And.intro (D6.cell 2 3 rfl rfl) (And.intro (D6.cell 2 4 rfl rfl) (And.intro (D6.cell 1 0 rfl rfl) (And.intro (D6.cell 1 1 rfl rfl) (And.intro (D6.cell 1 2 rfl rfl) (And.intro (D6.cell 1 3 rfl rfl) (And.intro (D6.cell 1 4 rfl rfl) (And.intro (D6.cell 0 0 rfl rfl) (And.intro (D6.cell 0 1 rfl rfl) (And.intro (D6.cell 0 2 rfl rfl) (And.intro (D6.cell 0 3 rfl rfl) (D6.cell 0 4 rfl rfl))))))))))))))
    refine wpAnyL_take (i := 0) (v := ?_) rfl (by kernel_rfl) (by kernel_rfl) (by kernel_rfl) (by kernel_rfl) (by kernel_rfl) (fun _ _ _ h => h) (Or.inl ⟨by kernel_rfl, ?_⟩) s6 ?_
    rotate_left
    · rintro w0 ⟨h1_, h2_, h3_, h4_, h5_, h6_, h7_, h8_, h9_, h10_, h11_, h12_, h13_, h14_, h15_⟩; go_simp; (try with_reducible rfl)
    try simp only [Act.put, List.getElem_toArray, List.getElem_cons_succ, List.getElem_cons_zero, List.setIfInBounds_toArray, List.set_cons_zero, List.set_cons_succ]
    refine wpAnyL_take (i := 1) (v := ?_) rfl (by kernel_rfl) (by kernel_rfl) (by kernel_rfl) (by kernel_rfl) (by kernel_rfl) (fun _ _ _ h => h) (Or.inl ⟨by kernel_rfl, ?_⟩) s6 ?_
    rotate_left
    · rintro w0 ⟨h1_, h2_, h3_, h4_, h5_, h6_, h7_, h8_, h9_, h10_, h11_, h12_, h13_, h14_, h15_⟩; go_simp; (try with_reducible rfl)
    try simp only [Act.put, List.getElem_toArray, List.getElem_cons_succ, List.getElem_cons_zero, List.setIfInBounds_toArray, List.set_cons_zero, List.set_cons_succ]
    refine wpAnyL_one (i := 2) (by kernel_rfl) rfl (fun K hK => ?_)
    go_simp
    refine (rows_c (D6.i 3 rfl) (D6.i 2 rfl) (by omega) (by omega) (r := true) (decide_eq_true rfl)).mono ?_; rintro e w7 ⟨rfl, hb7⟩
    have D7 := D6.below hb7
    have s7 := And.intro (D7.cell 2 0 rfl rfl) (And.intro (D7.cell 2 1 rfl rfl) (And.intro (D7.cell 2 2 rfl rfl) (And.intro (D7.cell 2 3 rfl rfl) (And.intro (D7.cell 2 4 rfl rfl) (And.intro (D7.cell 1 0 rfl rfl) (And.intro (D7.cell 1 1 rfl rfl) (And.intro (D7.cell 1 2 rfl rfl) (And.intro (D7.cell 1 3 rfl rfl) (And.intro (D7.cell 1 4 rfl rfl) (And.intro (D7.cell 0 0 rfl rfl) (And.intro (D7.cell 0 1 rfl rfl) (And.intro (D7.cell 0 2 rfl rfl) (And.intro (D7.cell 0 3 rfl rfl) (D7.cell 0 4 rfl rfl))))))))))))))
    clear hb7 D6 s6
    go_wp2_with fail
    refine hK.out _ _ (fun _ => s7) ?_
    clear hK K
    try simp only [Act.put, List.getElem_toArray, List.getElem_cons_succ, List.getElem_cons_zero, List.setIfInBounds_toArray, List.set_cons_zero, List.set_cons_succ]
    refine wpAnyL_take (i := 3) (v := ?_) rfl (by kernel_rfl) (by kernel_rfl) (by kernel_rfl) (by kernel_rfl) (by kernel_rfl) (fun _ _ _ h => h) (Or.inl ⟨by kernel_rfl, ?_⟩) s7 ?_
    rotate_left
    · rintro w0 ⟨h1_, h2_, h3_, h4_, h5_, h6_, h7_, h8_, h9_, h10_, h11_, h12_, h13_, h14_, h15_⟩; go_simp; (try with_reducible rfl)
    try simp only [Act.put, List.getElem_toArray, List.getElem_cons_succ, List.getElem_cons_zero, List.setIfInBounds_toArray, List.set_cons_zero, List.set_cons_succ]
    refine wpAnyL_take (i := 4) (v := ?_) rfl (by kernel_rfl) (by kernel_rfl) (by kernel_rfl) (by kernel_rfl) (by kernel_rfl) (fun _ _ _ h => h) (Or.inl ⟨by kernel_rfl, ?_⟩) s7 ?_
    rotate_left
    · rintro w0 ⟨h1_, h2_, h3_, h4_, h5_, h6_, h7_, h8_, h9_, h10_, h11_, h12_, h13_, h14_, h15_⟩; go_simp; (try with_reducible rfl)
    try simp only [Act.put, List.getElem_toArray, List.getElem_cons_succ, List.getElem_cons_zero, List.setIfInBounds_toArray, List.set_cons_zero, List.set_cons_succ]
    refine wpAnyL_take (i := 5) (v := ?_) rfl (by kernel_rfl) (by kernel_rfl) (by kernel_rfl) (by kernel_rfl) (by kernel_rfl) (fun _ _ _ h => h) (Or.inl ⟨by kernel_rfl, ?_⟩) s7 ?_
    rotate_left
    · rintro w0 ⟨h1_, h2_, h3_, h4_, h5_, h6_, h7_, h8_, h9_, h10_, h11_, h12_, h13_, h14_, h15_⟩; go_simp; (try with_reducible rfl)
    try simp only [Act.put, List.getElem_toArray, List.getElem_cons_succ, List.getElem_cons_zero, List.setIfInBounds_toArray, List.set_cons_zero, List.set_cons_succ]
    refine wpAnyL_take (i := 6) (v := ?_) rfl (by kernel_rfl) (by kernel_rfl) (by kernel_rfl) (by kernel_rfl) (by kernel_rfl) (fun _ _ _ h => h) (Or.inl ⟨by kernel_rfl, ?_⟩) s7 ?_
    rotate_left
    · rintro w0 ⟨h1_, h2_, h3_, h4_, h5_, h6_, h7_, h8_, h9_, h10_, h11_, h12_, h13_, h14_, h15_⟩; go_simp; (try with_reducible rfl)
    try simp only [Act.put, List.getElem_toArray, List.getElem_cons_succ, List.getElem_cons_zero, List.setIfInBounds_toArray, List.set_cons_zero, List.set_cons_succ]
    refine wpAnyL_take (i := 7) (v := ?_) rfl (by kernel_rfl) (by kernel_rfl) (by kernel_rfl) (by kernel_rfl) (by kernel_rfl) (fun _ _ _ h => h) (Or.inl ⟨by kernel_rfl, ?_⟩) s7 ?_
    rotate_left
    · rintro w0 ⟨h1_, h2_, h3_, h4_, h5_, h6_, h7_, h8_, h9_, h10_, h11_, h12_, h13_, h14_, h15_⟩; go_simp; (try with_reducible rfl)
    try simp only [Act.put, List.getElem_toArray, List.getElem_cons_succ, List.getElem_cons_zero, List.setIfInBounds_toArray, List.set_cons_zero, List.set_cons_succ]
    refine wpAnyL_take (i := 8) (v := ?_) rfl (by kernel_rfl) (by kernel_rfl) (by kernel_rfl) (by kernel_rfl) (by kernel_rfl) (fun _ _ _ h => h) (Or.inl ⟨by kernel_rfl, ?_⟩) s7 ?_
    rotate_left
    · rintro w0 ⟨h1_, h2_, h3_, h4_, h5_, h6_, h7_, h8_, h9_, h10_, h11_, h12_, h13_, h14_, h15_⟩; go_simp; (try with_reducible rfl)
    try simp only [Act.put, List.getElem_toArray, List.getElem_cons_succ, List.getElem_cons_zero, List.setIfInBounds_toArray, List.set_cons_zero, List.set_cons_succ]
    refine wpAnyL_take (i := 9) (v := ?_) rfl (by kernel_rfl) (by kernel_rfl) (by kernel_rfl) (by kernel_rfl) (by kernel_rfl) (fun _ _ _ h => h) (Or.inl ⟨by kernel_rfl, ?_⟩) s7 ?_
    rotate_left
    · rintro w0 ⟨h1_, h2_, h3_, h4_, h5_, h6_, h7_, h8_, h9_, h10_, h11_, h12_, h13_, h14_, h15_⟩; go_simp; (try with_reducible rfl)
    try simp only [Act.put, List.getElem_toArray, List.getElem_cons_succ, List.getElem_cons_zero, List.setIfInBounds_toArray, List.set_cons_zero, List.set_cons_succ]
    refine wpAnyL_take (i := 10) (v := ?_) rfl (by kernel_rfl) (by kernel_rfl) (by kernel_rfl) (by kernel_rfl) (by kernel_rfl) (fun _ _ _ h => h) (Or.inl ⟨by kernel_rfl, ?_⟩) s7 ?_
    rotate_left
    · rintro w0 ⟨h1_, h2_, h3_, h4_, h5_, h6_, h7_, h8_, h9_, h10_, h11_, h12_, h13_, h14_, h15_⟩; go_simp; (try with_reducible rfl)
    try simp only [Act.put, List.getElem_toArray, List.getElem_cons_succ, List.getElem_cons_zero, List.setIfInBounds_toArray, List.set_cons_zero, List.set_cons_succ]
    refine wpAnyL_take (i := 12) (v := ?_) rfl (by kernel_rfl) (by kernel_rfl) (by kernel_rfl) (by kernel_rfl) (by kernel_rfl) (fun _ _ _ h => h) (Or.inl ⟨by kernel_rfl, ?_⟩) s7 ?_
    rotate_left
    · rintro w0 ⟨h1_, h2_, h3_, h4_, h5_, h6_, h7_, h8_, h9_, h10_, h11_, h12_, h13_, h14_, h15_⟩; go_simp; (try with_reducible rfl)
    try simp only [Act.put, List.getElem_toArray, List.getElem_cons_succ, List.getElem_cons_zero, List.setIfInBounds_toArray, List.set_cons_zero, List.set_cons_succ]
    refine wpAnyL_all (rs := [11, 13]) (by kernel_rfl) (by simp) (StepsL.cons (i := 11) rfl (fun K hK => ?_) (StepsL.cons (i := 13) rfl (fun K hK => ?_) StepsL.nil))
    · go_simp
      have D8 := D7.alloc 25 #[.int .u32 (dg : Int), .int .u32 (ds : Int), .int .i64 dp, .int .i64 dq, .slice A4 dm c4] (g := w7.heap.size) rfl
      have s8 := And.intro (D8.cell 3 0 rfl rfl) (And.intro (D8.cell 3 1 rfl rfl) (And.intro (D8.cell 3 2 rfl rfl) (And.intro (D8.cell 3 3 rfl rfl) (And.intro (D8.cell 3 4 rfl rfl) (And.intro (D8.cell 2 0 rfl rfl) (And.intro (D8.cell 2 1 rfl rfl) (And.intro (D8.cell 2 2 rfl rfl) (And.intro (D8.cell 2 3 rfl rfl) (And.intro (D8.cell 2 4 rfl rfl) (And.intro (D8.cell 1 0 rfl rfl) (And.intro (D8.cell 1 1 rfl rfl) (And.intro (D8.cell 1 2 rfl rfl) (And.intro (D8.cell 1 3 rfl rfl) (D8.cell 1 4 rfl rfl))))))))))))))
      clear s7
      refine hK.out _ _ (fun _ => s8) ?_
      clear hK K
      try simp only [Act.put, List.getElem_toArray, List.getElem_cons_succ, List.getElem_cons_zero, List.setIfInBounds_toArray, List.set_cons_zero, List.set_cons_succ]
      refine wpAnyL_one (i := 13) (by kernel_rfl) rfl (fun K hK => ?_)
      go_simp
      have D9 := D8.alloc 25 #[.int .u32 (dg : Int), .int .u32 (ds : Int), .int .i64 dp, .int .i64 dq, .slice A5 dm c5] (g := w7.heap.size + 1) (by simp)
      have s9 := And.intro (D9.cell 4 0 rfl rfl) (And.intro (D9.cell 4 1 rfl rfl) (And.intro (D9.cell 4 2 rfl rfl) (And.intro (D9.cell 4 3 rfl rfl) (And.intro (D9.cell 4 4 rfl rfl) (And.intro (D9.cell 3 0 rfl rfl) (And.intro (D9.cell 3 1 rfl rfl) (And.intro (D9.cell 3 2 rfl rfl) (And.intro (D9.cell 3 3 rfl rfl) (And.intro (D9.cell 3 4 rfl rfl) (And.intro (D9.cell 2 0 rfl rfl) (And.intro (D9.cell 2 1 rfl rfl) (And.intro (D9.cell 2 2 rfl rfl) (And.intro (D9.cell 2 3 rfl rfl) (D9.cell 2 4 rfl rfl))))))))))))))
      clear s8
      refine hK.out _ _ (fun _ => s9) ?_
      clear hK K
      try simp only [Act.put, List.getElem_toArray, List.getElem_cons_succ, List.getElem_cons_zero, List.setIfInBounds_toArray, List.set_cons_zero, List.set_cons_succ]
      refine wpAnyL_one (i := 14) (by kernel_rfl) rfl (fun K hK => ?_)
      go_simp
      have r1 := crd_lit (w := w7) (e := ⟨⟨dg, ds, dp, dq, dd⟩, A4, dm, c4⟩) (cs := #[.int .u32 (dg : Int), .int .u32 (ds : Int), .int .i64 dp, .int .i64 dq, .slice A4 dm c4]) (cl_in HI.out (D7.i 1 rfl)) rfl (g := w7.heap.size) rfl
      have r2 := crd_lit (w := w7.alloc (.cells #[.int .u32 (dg : Int), .int .u32 (ds : Int), .int .i64 dp, .int .i64 dq, .slice A4 dm c4] 25)) (e := ⟨⟨dg, ds, dp, dq, dd⟩, A5, dm, c5⟩) (cs := #[.int .u32 (dg : Int), .int .u32 (ds : Int), .int .i64 dp, .int .i64 dq, .slice A5 dm c5]) (cl_in HI.out (D8.i 0 rfl)) rfl (g := w7.heap.size + 1) (by simp)
      have r1 := r1.below ((Below.refl _ _).alloc (Nat.le_refl _) (.cells #[.int .u32 (dg : Int), .int .u32 (ds : Int), .int .i64 dp, .int .i64 dq, .slice A5 dm c5] 25))
      refine (alike_c r1 r2 (by omega) (by omega) (r := true) (decide_eq_true rfl)).mono ?_; rintro e w10 ⟨rfl, hb10⟩
      have D10 := D9.below hb10
      have s10 := And.intro (D10.cell 4 0 rfl rfl) (And.intro (D10.cell 4 1 rfl rfl) (And.intro (D10.cell 4 2 rfl rfl) (And.intro (D10.cell 4 3 rfl rfl) (And.intro (D10.cell 4 4 rfl rfl) (And.intro (D10.cell 3 0 rfl rfl) (And.intro (D10.cell 3 1 rfl rfl) (And.intro (D10.cell 3 2 rfl rfl) (And.intro (D10.cell 3 3 rfl rfl) (And.intro (D10.cell 3 4 rfl rfl) (And.intro (D10.cell 2 0 rfl rfl) (And.intro (D10.cell 2 1 rfl rfl) (And.intro (D10.cell 2 2 rfl rfl) (And.intro (D10.cell 2 3 rfl rfl) (D10.cell 2 4 rfl rfl))))))))))))))
      clear hb10 D7 D8 D9 s9 r1 r2
      go_wp2_with fail
      refine hK.out _ _ (fun _ => s10) ?_
      clear hK K
      try simp only [Act.put, List.getElem_toArray, List.getElem_cons_succ, List.getElem_cons_zero, List.setIfInBounds_toArray, List.set_cons_zero, List.set_cons_succ]
      refine wpAnyL_take (i := 15) (v := ?_) rfl (by kernel_rfl) (by kernel_rfl) (by kernel_rfl) (by kernel_rfl) (by kernel_rfl) (fun _ _ _ h => h) (Or.inl ⟨by kernel_rfl, ?_⟩) s10 ?_
      rotate_left
      · rintro w0 ⟨h1_, h2_, h3_, h4_, h5_, h6_, h7_, h8_, h9_, h10_, h11_, h12_, h13_, h14_, h15_⟩; go_simp; (try with_reducible rfl)
      try simp only [Act.put, List.getElem_toArray, List.getElem_cons_succ, List.getElem_cons_zero, List.setIfInBounds_toArray, List.set_cons_zero, List.set_cons_succ]
      refine wpAnyL_take (i := 16) (v := ?_) rfl (by kernel_rfl) (by kernel_rfl) (by kernel_rfl) (by kernel_rfl) (by kernel_rfl) (fun _ _ _ h => h) (Or.inl ⟨by kernel_rfl, ?_⟩) s10 ?_
      rotate_left
      · rintro w0 ⟨h1_, h2_, h3_, h4_, h5_, h6_, h7_, h8_, h9_, h10_, h11_, h12_, h13_, h14_, h15_⟩; go_simp; (try with_reducible rfl)
      try simp only [Act.put, List.getElem_toArray, List.getElem_cons_succ, List.getElem_cons_zero, List.setIfInBounds_toArray, List.set_cons_zero, List.set_cons_succ]
      refine wpAnyL_take (i := 17) (v := ?_) rfl (by kernel_rfl) (by kernel_rfl) (by kernel_rfl) (by kernel_rfl) (by kernel_rfl) (fun _ _ _ h => h) (Or.inl ⟨by kernel_rfl, ?_⟩) s10 ?_
      rotate_left
      · rintro w0 ⟨h1_, h2_, h3_, h4_, h5_, h6_, h7_, h8_, h9_, h10_, h11_, h12_, h13_, h14_, h15_⟩; go_simp; (try with_reducible rfl)
      try simp only [Act.put, List.getElem_toArray, List.getElem_cons_succ, List.getElem_cons_zero, List.setIfInBounds_toArray, List.set_cons_zero, List.set_cons_succ]
      refine wpAnyL_take (i := 18) (v := ?_) rfl (by kernel_rfl) (by kernel_rfl) (by kernel_rfl) (by kernel_rfl) (by kernel_rfl) (fun _ _ _ h => h) (Or.inl ⟨by kernel_rfl, ?_⟩) s10 ?_
      rotate_left
      · rintro w0 ⟨h1_, h2_, h3_, h4_, h5_, h6_, h7_, h8_, h9_, h10_, h11_, h12_, h13_, h14_, h15_⟩; go_simp; (try with_reducible rfl)
      try simp only [Act.put, List.getElem_toArray, List.getElem_cons_succ, List.getElem_cons_zero, List.setIfInBounds_toArray, List.set_cons_zero, List.set_cons_succ]
      refine wpAnyL_take (i := 19) (v := ?_) rfl (by kernel_rfl) (by kernel_rfl) (by kernel_rfl) (by kernel_rfl) (by kernel_rfl) (fun _ _ _ h => h) (Or.inl ⟨by kernel_rfl, ?_⟩) s10 ?_
      rotate_left
      · rintro w0 ⟨h1_, h2_, h3_, h4_, h5_, h6_, h7_, h8_, h9_, h10_, h11_, h12_, h13_, h14_, h15_⟩; go_simp; (try with_reducible rfl)
      try simp only [Act.put, List.getElem_toArray, List.getElem_cons_succ, List.getElem_cons_zero, List.setIfInBounds_toArray, List.set_cons_zero, List.set_cons_succ]
      refine wpAnyL_take (i := 20) (v := ?_) rfl (by kernel_rfl) (by kernel_rfl) (by kernel_rfl) (by kernel_rfl) (by kernel_rfl) (fun _ _ _ h => h) (Or.inl ⟨by kernel_rfl, ?_⟩) s10 ?_
      rotate_left
      · rintro w0 ⟨h1_, h2_, h3_, h4_, h5_, h6_, h7_, h8_, h9_, h10_, h11_, h12_, h13_, h14_, h15_⟩; go_simp; (try with_reducible rfl)
      try simp only [Act.put, List.getElem_toArray, List.getElem_cons_succ, List.getElem_cons_zero, List.setIfInBounds_toArray, List.set_cons_zero, List.set_cons_succ]
      refine wpAnyL_take (i := 21) (v := ?_) rfl (by kernel_rfl) (by kernel_rfl) (by kernel_rfl) (by kernel_rfl) (by kernel_rfl) (fun _ _ _ h => h) (Or.inl ⟨by kernel_rfl, ?_⟩) s10 ?_
      rotate_left
      · rintro w0 ⟨h1_, h2_, h3_, h4_, h5_, h6_, h7_, h8_, h9_, h10_, h11_, h12_, h13_, h14_, h15_⟩; go_simp; (try with_reducible rfl)
      try simp only [Act.put, List.getElem_toArray, List.getElem_cons_succ, List.getElem_cons_zero, List.setIfInBounds_toArray, List.set_cons_zero, List.set_cons_succ]
      refine wpAnyL_take (i := 22) (v := ?_) rfl (by kernel_rfl) (by kernel_rfl) (by kernel_rfl) (by kernel_rfl) (by kernel_rfl) (fun _ _ _ h => h) (Or.inl ⟨by kernel_rfl, ?_⟩) s10 ?_
      rotate_left
      · rintro w0 ⟨h1_, h2_, h3_, h4_, h5_, h6_, h7_, h8_, h9_, h10_, h11_, h12_, h13_, h14_, h15_⟩; go_simp; (try with_reducible rfl)
      try simp only [Act.put, List.getElem_toArray, List.getElem_cons_succ, List.getElem_cons_zero, List.setIfInBounds_toArray, List.set_cons_zero, List.set_cons_succ]
      refine wpAnyL_take (i := 23) (v := ?_) rfl (by kernel_rfl) (by kernel_rfl) (by kernel_rfl) (by kernel_rfl) (by kernel_rfl) (fun _ _ _ h => h) (Or.inl ⟨by kernel_rfl, ?_⟩) s10 ?_
      rotate_left
      · rintro w0 ⟨h1_, h2_, h3_, h4_, h5_, h6_, h7_, h8_, h9_, h10_, h11_, h12_, h13_, h14_, h15_⟩; go_simp; (try with_reducible rfl)
      try simp only [Act.put, List.getElem_toArray, List.getElem_cons_succ, List.getElem_cons_zero, List.setIfInBounds_toArray, List.set_cons_zero, List.set_cons_succ]
      refine wpAnyL_take (i := 25) (v := ?_) rfl (by kernel_rfl) (by kernel_rfl) (by kernel_rfl) (by kernel_rfl) (by kernel_rfl) (fun _ _ _ h => h) (Or.inl ⟨by kernel_rfl, ?_⟩) s10 ?_
      rotate_left
      · rintro w0 ⟨h1_, h2_, h3_, h4_, h5_, h6_, h7_, h8_, h9_, h10_, h11_, h12_, h13_, h14_, h15_⟩; go_simp; (try with_reducible rfl)
      try simp only [Act.put, List.getElem_toArray, List.getElem_cons_succ, List.getElem_cons_zero, List.setIfInBounds_toArray, List.set_cons_zero, List.set_cons_succ]
      refine wpAnyL_one (i := 24) (by kernel_rfl) rfl (fun K hK => ?_)
      go_simp
      refine (may_c gs sq pt ps A n c _ hps HM.out).mono ?_; rintro e w11 ⟨rfl, hb11⟩
      have D11 := D10.below hb11
      have s11 := And.intro (D11.cell 4 0 rfl rfl) (And.intro (D11.cell 4 1 rfl rfl) (And.intro (D11.cell 4 2 rfl rfl) (And.intro (D11.cell 4 3 rfl rfl) (And.intro (D11.cell 4 4 rfl rfl) (And.intro (D11.cell 3 0 rfl rfl) (And.intro (D11.cell 3 1 rfl rfl) (And.intro (D11.cell 3 2 rfl rfl) (And.intro (D11.cell 3 3 rfl rfl) (And.intro (D11.cell 3 4 rfl rfl) (And.intro (D11.cell 2 0 rfl rfl) (And.intro (D11.cell 2 1 rfl rfl) (And.intro (D11.cell 2 2 rfl rfl) (And.intro (D11.cell 2 3 rfl rfl) (D11.cell 2 4 rfl rfl))))))))))))))
      clear hb11 D10 s10
      go_wp2_with fail
      refine hK.out _ _ (fun _ => s11) ?_
      clear hK K
      try simp only [Act.put, List.getElem_toArray, List.getElem_cons_succ, List.getElem_cons_zero, List.setIfInBounds_toArray, List.set_cons_zero, List.set_cons_succ]
      refine wpAnyL_one (i := 26) (by kernel_rfl) rfl (fun K hK => ?_)
      go_simp
      refine (rmay_any gs sq pt ps A n c _ hps).mono ?_; rintro e w12 ⟨rfl, hb12⟩
      have D12 := D11.below hb12
      have s12 := And.intro (D12.cell 4 0 rfl rfl) (And.intro (D12.cell 4 1 rfl rfl) (And.intro (D12.cell 4 2 rfl rfl) (And.intro (D12.cell 4 3 rfl rfl) (And.intro (D12.cell 4 4 rfl rfl) (And.intro (D12.cell 3 0 rfl rfl) (And.intro (D12.cell 3 1 rfl rfl) (And.intro (D12.cell 3 2 rfl rfl) (And.intro (D12.cell 3 3 rfl rfl) (And.intro (D12.cell 3 4 rfl rfl) (And.intro (D12.cell 2 0 rfl rfl) (And.intro (D12.cell 2 1 rfl rfl) (And.intro (D12.cell 2 2 rfl rfl) (And.intro (D12.cell 2 3 rfl rfl) (D12.cell 2 4 rfl rfl))))))))))))))
      clear hb12 D11 s11
      rw [HM.out]
      go_wp2_with fail
      refine hK.out _ _ (fun _ => s12) ?_
      clear hK K
      try simp only [Act.put, List.getElem_toArray, List.getElem_cons_succ, List.getElem_cons_zero, List.setIfInBounds_toArray, List.set_cons_zero, List.set_cons_succ]
      refine wpAnyL_take (i := 27) (v := ?_) rfl (by kernel_rfl) (by kernel_rfl) (by kernel_rfl) (by kernel_rfl) (by kernel_rfl) (fun _ _ _ h => h) (Or.inl ⟨by kernel_rfl, ?_⟩) s12 ?_
      rotate_left
      · rintro w0 ⟨h1_, h2_, h3_, h4_, h5_, h6_, h7_, h8_, h9_, h10_, h11_, h12_, h13_, h14_, h15_⟩; go_simp; (try with_reducible rfl)
      try simp only [Act.put, List.getElem_toArray, List.getElem_cons_succ, List.getElem_cons_zero, List.setIfInBounds_toArray, List.set_cons_zero, List.set_cons_succ]
      refine wpAnyL_take (i := 28) (v := ?_) rfl (by kernel_rfl) (by kernel_rfl) (by kernel_rfl) (by kernel_rfl) (by kernel_rfl) (fun _ _ _ h => h) (Or.inl ⟨by kernel_rfl, ?_⟩) s12 ?_
      rotate_left
      · rintro w0 ⟨h1_, h2_, h3_, h4_, h5_, h6_, h7_, h8_, h9_, h10_, h11_, h12_, h13_, h14_, h15_⟩; go_simp; (try with_reducible rfl)
      try simp only [Act.put, List.getElem_toArray, List.getElem_cons_succ, List.getElem_cons_zero, List.setIfInBounds_toArray, List.set_cons_zero, List.set_cons_succ]
      refine wpAnyL_done (by kernel_rfl) ?_ _
      go_wp2_with fail
      go_meet
      exact ⟨rfl, D12.tail2⟩
    · go_simp
      have D8 := D7.alloc 25 #[.int .u32 (dg : Int), .int .u32 (ds : Int), .int .i64 dp, .int .i64 dq, .slice A5 dm c5] (g := w7.heap.size) rfl
      have s8 := And.intro (D8.cell 3 0 rfl rfl) (And.intro (D8.cell 3 1 rfl rfl) (And.intro (D8.cell 3 2 rfl rfl) (And.intro (D8.cell 3 3 rfl rfl) (And.intro (D8.cell 3 4 rfl rfl) (And.intro (D8.cell 2 0 rfl rfl) (And.intro (D8.cell 2 1 rfl rfl) (And.intro (D8.cell 2 2 rfl rfl) (And.intro (D8.cell 2 3 rfl rfl) (And.intro (D8.cell 2 4 rfl rfl) (And.intro (D8.cell 1 0 rfl rfl) (And.intro (D8.cell 1 1 rfl rfl) (And.intro (D8.cell 1 2 rfl rfl) (And.intro (D8.cell 1 3 rfl rfl) (D8.cell 1 4 rfl rfl))))))))))))))
      clear s7
      refine hK.out _ _ (fun _ => s8) ?_
      clear hK K
      try simp only [Act.put, List.getElem_toArray, List.getElem_cons_succ, List.getElem_cons_zero, List.setIfInBounds_toArray, List.set_cons_zero, List.set_cons_succ]
      refine wpAnyL_one (i := 11) (by kernel_rfl) rfl (fun K hK => ?_)
      go_simp
      have D9 := D8.alloc 25 #[.int .u32 (dg : Int), .int .u32 (ds : Int), .int .i64 dp, .int .i64 dq, .slice A4 dm c4] (g := w7.heap.size + 1) (by simp)
      have s9 := And.intro (D9.cell 4 0 rfl rfl) (And.intro (D9.cell 4 1 rfl rfl) (And.intro (D9.cell 4 2 rfl rfl) (And.intro (D9.cell 4 3 rfl rfl) (And.intro (D9.cell 4 4 rfl rfl) (And.intro (D9.cell 3 0 rfl rfl) (And.intro (D9.cell 3 1 rfl rfl) (And.intro (D9.cell 3 2 rfl rfl) (And.intro (D9.cell 3 3 rfl rfl) (And.intro (D9.cell 3 4 rfl rfl) (And.intro (D9.cell 2 0 rfl rfl) (And.intro (D9.cell 2 1 rfl rfl) (And.intro (D9.cell 2 2 rfl rfl) (And.intro (D9.cell 2 3 rfl rfl) (D9.cell 2 4 rfl rfl))))))))))))))
      clear s8
      refine hK.out _ _ (fun _ => s9) ?_
      clear hK K
      try simp only [Act.put, List.getElem_toArray, List.getElem_cons_succ, List.getElem_cons_zero, List.setIfInBounds_toArray, List.set_cons_zero, List.set_cons_succ]
      refine wpAnyL_one (i := 14) (by kernel_rfl) rfl (fun K hK => ?_)
      go_simp
      have r1 := crd_lit (w := w7) (e := ⟨⟨dg, ds, dp, dq, dd⟩, A5, dm, c5⟩) (cs := #[.int .u32 (dg : Int), .int .u32 (ds : Int), .int .i64 dp, .int .i64 dq, .slice A5 dm c5]) (cl_in HI.out (D7.i 0 rfl)) rfl (g := w7.heap.size) rfl
      have r2 := crd_lit (w := w7.alloc (.cells #[.int .u32 (dg : Int), .int .u32 (ds : Int), .int .i64 dp, .int .i64 dq, .slice A5 dm c5] 25)) (e := ⟨⟨dg, ds, dp, dq, dd⟩, A4, dm, c4⟩) (cs := #[.int .u32 (dg : Int), .int .u32 (ds : Int), .int .i64 dp, .int .i64 dq, .slice A4 dm c4]) (cl_in HI.out (D8.i 1 rfl)) rfl (g := w7.heap.size + 1) (by simp)
      have r1 := r1.below ((Below.refl _ _).alloc (Nat.le_refl _) (.cells #[.int .u32 (dg : Int), .int .u32 (ds : Int), .int .i64 dp, .int .i64 dq, .slice A4 dm c4] 25))
      refine (alike_c r2 r1 (by omega) (by omega) (r := true) (decide_eq_true rfl)).mono ?_; rintro e w10 ⟨rfl, hb10⟩
      have D10 := D9.below hb10
      have s10 := And.intro (D10.cell 4 0 rfl rfl) (And.intro (D10.cell 4 1 rfl rfl) (And.intro (D10.cell 4 2 rfl rfl) (And.intro (D10.cell 4 3 rfl rfl) (And.intro (D10.cell 4 4 rfl rfl) (And.intro (D10.cell 3 0 rfl rfl) (And.intro (D10.cell 3 1 rfl rfl) (And.intro (D10.cell 3 2 rfl rfl) (And.intro (D10.cell 3 3 rfl rfl) (And.intro (D10.cell 3 4 rfl rfl) (And.intro (D10.cell 2 0 rfl rfl) (And.intro (D10.cell 2 1 rfl rfl) (And.intro (D10.cell 2 2 rfl rfl) (And.intro (D10.cell 2 3 rfl rfl) (D10.cell 2 4 rfl rfl))))))))))))))
      clear hb10 D7 D8 D9 s9 r1 r2
      go_wp2_with fail
      refine hK.out _ _ (fun _ => s10) ?_
      clear hK K
      try simp only [Act.put, List.getElem_toArray, List.getElem_cons_succ, List.getElem_cons_zero, List.setIfInBounds_toArray, List.set_cons_zero, List.set_cons_succ]
      refine wpAnyL_take (i := 15) (v := ?_) rfl (by kernel_rfl) (by kernel_rfl) (by kernel_rfl) (by kernel_rfl) (by kernel_rfl) (fun _ _ _ h => h) (Or.inl ⟨by kernel_rfl, ?_⟩) s10 ?_
      rotate_left
      · rintro w0 ⟨h1_, h2_, h3_, h4_, h5_, h6_, h7_, h8_, h9_, h10_, h11_, h12_, h13_, h14_, h15_⟩; go_simp; (try with_reducible rfl)
      try simp only [Act.put, List.getElem_toArray, List.getElem_cons_succ, List.getElem_cons_zero, List.setIfInBounds_toArray, List.set_cons_zero, List.set_cons_succ]
      refine wpAnyL_take (i := 16) (v := ?_) rfl (by kernel_rfl) (by kernel_rfl) (by kernel_rfl) (by kernel_rfl) (by kernel_rfl) (fun _ _ _ h => h) (Or.inl ⟨by kernel_rfl, ?_⟩) s10 ?_
      rotate_left
      · rintro w0 ⟨h1_, h2_, h3_, h4_, h5_, h6_, h7_, h8_, h9_, h10_, h11_, h12_, h13_, h14_, h15_⟩; go_simp; (try with_reducible rfl)
      try simp only [Act.put, List.getElem_toArray, List.getElem_cons_succ, List.getElem_cons_zero, List.setIfInBounds_toArray, List.set_cons_zero, List.set_cons_succ]
      refine wpAnyL_take (i := 17) (v := ?_) rfl (by kernel_rfl) (by kernel_rfl) (by kernel_rfl) (by kernel_rfl) (by kernel_rfl) (fun _ _ _ h => h) (Or.inl ⟨by kernel_rfl, ?_⟩) s10 ?_
      rotate_left
      · rintro w0 ⟨h1_, h2_, h3_, h4_, h5_, h6_, h7_, h8_, h9_, h10_, h11_, h12_, h13_, h14_, h15_⟩; go_simp; (try with_reducible rfl)
      try simp only [Act.put, List.getElem_toArray, List.getElem_cons_succ, List.getElem_cons_zero, List.setIfInBounds_toArray, List.set_cons_zero, List.set_cons_succ]
      refine wpAnyL_take (i := 18) (v := ?_) rfl (by kernel_rfl) (by kernel_rfl) (by kernel_rfl) (by kernel_rfl) (by kernel_rfl) (fun _ _ _ h => h) (Or.inl ⟨by kernel_rfl, ?_⟩) s10 ?_
      rotate_left
      · rintro w0 ⟨h1_, h2_, h3_, h4_, h5_, h6_, h7_, h8_, h9_, h10_, h11_, h12_, h13_, h14_, h15_⟩; go_simp; (try with_reducible rfl)
      try simp only [Act.put, List.getElem_toArray, List.getElem_cons_succ, List.getElem_cons_zero, List.setIfInBounds_toArray, List.set_cons_zero, List.set_cons_succ]
      refine wpAnyL_take (i := 19) (v := ?_) rfl (by kernel_rfl) (by kernel_rfl) (by kernel_rfl) (by kernel_rfl) (by kernel_rfl) (fun _ _ _ h => h) (Or.inl ⟨by kernel_rfl, ?_⟩) s10 ?_
      rotate_left
      · rintro w0 ⟨h1_, h2_, h3_, h4_, h5_, h6_, h7_, h8_, h9_, h10_, h11_, h12_, h13_, h14_, h15_⟩; go_simp; (try with_reducible rfl)
      try simp only [Act.put, List.getElem_toArray, List.getElem_cons_succ, List.getElem_cons_zero, List.setIfInBounds_toArray, List.set_cons_zero, List.set_cons_succ]
      refine wpAnyL_take (i := 20) (v := ?_) rfl (by kernel_rfl) (by kernel_rfl) (by kernel_rfl) (by kernel_rfl) (by kernel_rfl) (fun _ _ _ h => h) (Or.inl ⟨by kernel_rfl, ?_⟩) s10 ?_
      rotate_left
      · rintro w0 ⟨h1_, h2_, h3_, h4_, h5_, h6_, h7_, h8_, h9_, h10_, h11_, h12_, h13_, h14_, h15_⟩; go_simp; (try with_reducible rfl)
      try simp only [Act.put, List.getElem_toArray, List.getElem_cons_succ, List.getElem_cons_zero, List.setIfInBounds_toArray, List.set_cons_zero, List.set_cons_succ]
      refine wpAnyL_take (i := 21) (v := ?_) rfl (by kernel_rfl) (by kernel_rfl) (by kernel_rfl) (by kernel_rfl) (by kernel_rfl) (fun _ _ _ h => h) (Or.inl ⟨by kernel_rfl, ?_⟩) s10 ?_
      rotate_left
      · rintro w0 ⟨h1_, h2_, h3_, h4_, h5_, h6_, h7_, h8_, h9_, h10_, h11_, h12_, h13_, h14_, h15_⟩; go_simp; (try with_reducible rfl)
      try simp only [Act.put, List.getElem_toArray, List.getElem_cons_succ, List.getElem_cons_zero, List.setIfInBounds_toArray, List.set_cons_zero, List.set_cons_succ]
      refine wpAnyL_take (i := 22) (v := ?_) rfl (by kernel_rfl) (by kernel_rfl) (by kernel_rfl) (by kernel_rfl) (by kernel_rfl) (fun _ _ _ h => h) (Or.inl ⟨by kernel_rfl, ?_⟩) s10 ?_
      rotate_left
      · rintro w0 ⟨h1_, h2_, h3_, h4_, h5_, h6_, h7_, h8_, h9_, h10_, h11_, h12_, h13_, h14_, h15_⟩; go_simp; (try with_reducible rfl)
      try simp only [Act.put, List.getElem_toArray, List.getElem_cons_succ, List.getElem_cons_zero, List.setIfInBounds_toArray, List.set_cons_zero, List.set_cons_succ]
      refine wpAnyL_take (i := 23) (v := ?_) rfl (by kernel_rfl) (by kernel_rfl) (by kernel_rfl) (by kernel_rfl) (by kernel_rfl) (fun _ _ _ h => h) (Or.inl ⟨by kernel_rfl, ?_⟩) s10 ?_
      rotate_left
      · rintro w0 ⟨h1_, h2_, h3_, h4_, h5_, h6_, h7_, h8_, h9_, h10_, h11_, h12_, h13_, h14_, h15_⟩; go_simp; (try with_reducible rfl)
      try simp only [Act.put, List.getElem_toArray, List.getElem_cons_succ, List.getElem_cons_zero, List.setIfInBounds_toArray, List.set_cons_zero, List.set_cons_succ]
      refine wpAnyL_take (i := 25) (v := ?_) rfl (by kernel_rfl) (by kernel_rfl) (by kernel_rfl) (by kernel_rfl) (by kernel_rfl) (fun _ _ _ h => h) (Or.inl ⟨by kernel_rfl, ?_⟩) s10 ?_
      rotate_left
      · rintro w0 ⟨h1_, h2_, h3_, h4_, h5_, h6_, h7_, h8_, h9_, h10_, h11_, h12_, h13_, h14_, h15_⟩; go_simp; (try with_reducible rfl)
      try simp only [Act.put, List.getElem_toArray, List.getElem_cons_succ, List.getElem_cons_zero, List.setIfInBounds_toArray, List.set_cons_zero, List.set_cons_succ]
      refine wpAnyL_one (i := 24) (by kernel_rfl) rfl (fun K hK => ?_)
      go_simp
      refine (may_c gs sq pt ps A n c _ hps HM.out).mono ?_; rintro e w11 ⟨rfl, hb11⟩
      have D11 := D10.below hb11
      have s11 := And.intro (D11.cell 4 0 rfl rfl) (And.intro (D11.cell 4 1 rfl rfl) (And.intro (D11.cell 4 2 rfl rfl) (And.intro (D11.cell 4 3 rfl rfl) (And.intro (D11.cell 4 4 rfl rfl) (And.intro (D11.cell 3 0 rfl rfl) (And.intro (D11.cell 3 1 rfl rfl) (And.intro (D11.cell 3 2 rfl rfl) (And.intro (D11.cell 3 3 rfl rfl) (And.intro (D11.cell 3 4 rfl rfl) (And.intro (D11.cell 2 0 rfl rfl) (And.intro (D11.cell 2 1 rfl rfl) (And.intro (D11.cell 2 2 rfl rfl) (And.intro (D11.cell 2 3 rfl rfl) (D11.cell 2 4 rfl rfl))))))))))))))
      clear hb11 D10 s10
      go_wp2_with fail
      refine hK.out _ _ (fun _ => s11) ?_
      clear hK K
      try simp only [Act.put, List.getElem_toArray, List.getElem_cons_succ, List.getElem_cons_zero, List.setIfInBounds_toArray, List.set_cons_zero, List.set_cons_succ]
      refine wpAnyL_one (i := 26) (by kernel_rfl) rfl (fun K hK => ?_)
      go_simp
      refine (rmay_any gs sq pt ps A n c _ hps).mono ?_; rintro e w12 ⟨rfl, hb12⟩
      have D12 := D11.below hb12
      have s12 := And.intro (D12.cell 4 0 rfl rfl) (And.intro (D12.cell 4 1 rfl rfl) (And.intro (D12.cell 4 2 rfl rfl) (And.intro (D12.cell 4 3 rfl rfl) (And.intro (D12.cell 4 4 rfl rfl) (And.intro (D12.cell 3 0 rfl rfl) (And.intro (D12.cell 3 1 rfl rfl) (And.intro (D12.cell 3 2 rfl rfl) (And.intro (D12.cell 3 3 rfl rfl) (And.intro (D12.cell 3 4 rfl rfl) (And.intro (D12.cell 2 0 rfl rfl) (And.intro (D12.cell 2 1 rfl rfl) (And.intro (D12.cell 2 2 rfl rfl) (And.intro (D12.cell 2 3 rfl rfl) (D12.cell 2 4 rfl rfl))))))))))))))
      clear hb12 D11 s11
      rw [HM.out]
      go_wp2_with fail
      refine hK.out _ _ (fun _ => s12) ?_
      clear hK K
      try simp only [Act.put, List.getElem_toArray, List.getElem_cons_succ, List.getElem_cons_zero, List.setIfInBounds_toArray, List.set_cons_zero, List.set_cons_succ]
      refine wpAnyL_take (i := 27) (v := ?_) rfl (by kernel_rfl) (by kernel_rfl) (by kernel_rfl) (by kernel_rfl) (by kernel_rfl) (fun _ _ _ h => h) (Or.inl ⟨by kernel_rfl, ?_⟩) s12 ?_
      rotate_left
      · rintro w0 ⟨h1_, h2_, h3_, h4_, h5_, h6_, h7_, h8_, h9_, h10_, h11_, h12_, h13_, h14_, h15_⟩; go_simp; (try with_reducible rfl)
      try simp only [Act.put, List.getElem_toArray, List.getElem_cons_succ, List.getElem_cons_zero, List.setIfInBounds_toArray, List.set_cons_zero, List.set_cons_succ]
      refine wpAnyL_take (i := 28) (v := ?_) rfl (by kernel_rfl) (by kernel_rfl) (by kernel_rfl) (by kernel_rfl) (by kernel_rfl) (fun _ _ _ h => h) (Or.inl ⟨by kernel_rfl, ?_⟩) s12 ?_
      rotate_left
      · rintro w0 ⟨h1_, h2_, h3_, h4_, h5_, h6_, h7_, h8_, h9_, h10_, h11_, h12_, h13_, h14_, h15_⟩; go_simp; (try with_reducible rfl)
      try simp only [Act.put, List.getElem_toArray, List.getElem_cons_succ, List.getElem_cons_zero, List.setIfInBounds_toArray, List.set_cons_zero, List.set_cons_succ]
      refine wpAnyL_done (by kernel_rfl) ?_ _
      go_wp2_with fail
      go_meet
      exact ⟨rfl, D12.tail2⟩
  case rest =>
    obtain ⟨rfl, E6⟩ := hcut
    clear E5
    cases mb with
    | false =>
      have hc1 : cd = 1 := by rw [← HE.out.1]; unfold Cl.encCode; rw [HML.out, HM.out]; rfl
      subst hc1
      go_wp2_with fail
      go_ret
      exact ⟨rfl, E6.bel⟩
    | true =>
      have hc1 : cd = 0 := by rw [← HE.out.1]; unfold Cl.encCode; rw [HML.out, HM.out]; rfl
      subst hc1
      have hde := Cl.dec_enc HO.out (HML.out.trans HM.out)
      have hLe : L = Cl.enc ⟨gs, sq, pt, ps, l⟩ := by rw [← HE.out.2.1]; unfold Cl.encL; rw [HML.out, HM.out]; rfl
      rw [← hLe] at hde
      have HD := Lib.hid hde
      clear hde hLe
      go_wp2_with fail
      refine (dec_c (E6.i 3 rfl) (by omega) HD.out.1 HD.out.2 hlen).mono ?_; rintro e w7 ⟨A7, c7, rfl, hi7, hb7⟩
      have E7 := ((E6.below hb7).addI hi7).alloc 25 #[.int .u32 (gs : Int), .int .u32 (sq : Int), .int .i64 pt, .int .i64 ps, .slice A7 n c7] (g := w7.heap.size) rfl
      clear E6 hi7 hb7
      have k0 := E7.cell 0 0 rfl rfl
      have k1 := E7.cell 0 1 rfl rfl
      have k2 := E7.cell 0 2 rfl rfl
      have k3 := E7.cell 0 3 rfl rfl
      have k4 := E7.cell 0 4 rfl rfl
      have j0 := E7.cell 3 0 rfl rfl
      have j1 := E7.cell 3 1 rfl rfl
      have j2 := E7.cell 3 2 rfl rfl
      have j3 := E7.cell 3 3 rfl rfl
      have j4 := E7.cell 3 4 rfl rfl
      have r1 := crd_lit (e := ⟨⟨gs, sq, pt, ps, l⟩, A7, n, c7⟩) (cs := #[.int .u32 (gs : Int), .int .u32 (sq : Int), .int .i64 pt, .int .i64 ps, .slice A7 n c7]) ⟨(E7.i 0 rfl), hgs, hsq, hpts, hps, by show n ≤ _; omega⟩ rfl (g := w7.heap.size + 1) (by simp)
      have E8 := E7.alloc 25 #[.int .u32 (gs : Int), .int .u32 (sq : Int), .int .i64 pt, .int .i64 ps, .slice A7 n c7] (g := w7.heap.size + 1) (by simp)
      have m0 := E8.cell 4 0 rfl rfl
      have m1 := E8.cell 4 1 rfl rfl
      have m2 := E8.cell 4 2 rfl rfl
      have m3 := E8.cell 4 3 rfl rfl
      have m4 := E8.cell 4 4 rfl rfl
      have r2 := crd_lit (e := ⟨⟨gs, sq, pt, ps, l⟩, A, n, c⟩) (cs := #[.int .u32 (gs : Int), .int .u32 (sq : Int), .int .i64 pt, .int .i64 ps, .slice A n c]) ⟨(E8.i 5 rfl), hgs, hsq, hpts, hps, by show n ≤ _; omega⟩ rfl (g := w7.heap.size + 1 + 1) (by simp)
      have E9 := E8.alloc 25 #[.int .u32 (gs : Int), .int .u32 (sq : Int), .int .i64 pt, .int .i64 ps, .slice A n c] (g := w7.heap.size + 1 + 1) (by simp)
      have r1 := r1.below ((Below.refl _ _).alloc (Nat.le_refl _) (.cells #[.int .u32 (gs : Int), .int .u32 (sq : Int), .int .i64 pt, .int .i64 ps, .slice A n c] 25))
      clear E7 E8
      go_wp2_with fail
      refine (alike_c r1 r2 (by omega) (by omega) (r := true) (decide_eq_true rfl)).mono ?_; rintro e w10 ⟨rfl, hb10⟩
      have E10 := E9.below hb10
      clear r1 r2 E9 hb10 k0 k1 k2 k3 k4 j0 j1 j2 j3 j4 m0 m1 m2 m3 m4
      go_wp2_with fail
      go_ret
      exact ⟨rfl, E10.bel⟩
end Go.Proofs.YtfoeapjlklfjgaaDoor
