/- The contracts of package ratio: by, Of, Plain. No condition but the reach of a slice. -/
import Derived.Test.YticjhlbmdjijnaaGreatDoorHQA
namespace Go.Proofs.YticjhlbmdjijnaaGreatDoor
set_option linter.unusedSimpArgs false
set_option linter.unusedVariables false
open Go.RowKit

set_option maxRecDepth 100000 in
set_option maxHeartbeats 800000 in
theorem qexact {w : World} {a b : Bool} {A B : Option Addr} {n c m d : Nat} {x y : Int} {i j : Nat} {q : Bool} (g : Nat) (hg : Blk w g 24 #[.bool b, .slice B m d]) (ha : ZIs w a A n c x i true) (hb : ZIs w b B m d y j q) (h0 : y ≠ 0) (hi : i ≤ 268435456) (hj : j ≤ 268435456) :
    Calls Tryz.prog 93 #[.agg #[.bool a, .slice A n c], .pointer (some ⟨g, 0, none⟩)] w fun e w' => ∃ b3 A3 n3, e = .returned (.agg #[.bool b3, .slice A3 n3 n3]) ∧ ZIs w' b3 A3 n3 n3 (zv (decide (x < 0)) (x.natAbs / y.natAbs)) i true ∧ Below w.heap.size w w' := by
  have hna := ha.neg_b
  obtain ⟨l, hl, hv, _⟩ := ha.lim
  obtain ⟨k, hk, hv2, _⟩ := hb.lim
  have h1 := ha.few
  have h2 := hb.few
  have hd := fun w0 h0' h1' => div_any A B n c m d l k w0 h0' h1' (by omega) (by omega) (by omega)
  rw [hv, hv2] at hd
  obtain ⟨u, hu⟩ : ∃ u, x.natAbs / y.natAbs = u := ⟨_, rfl⟩
  rw [hu] at hd
  rw [hu, hna]
  have R0 := ((Env.nil_ w).alloc 24 #[.bool a, .slice A n c] (g := w.heap.size) rfl rfl).alloc 24 #[.bool false, .slice none 0 0] (g := w.heap.size + 1) (by simp) rfl
  have hg2 := (hg.alloc (.cells #[.bool a, .slice A n c] 24)).alloc (.cells #[.bool false, .slice none 0 0] 24)
  have g0 := hg2.c0
  have g1 := hg2.c1
  have hl2 := (hl.alloc (.cells #[.bool a, .slice A n c] 24)).alloc (.cells #[.bool false, .slice none 0 0] 24)
  have hk2 := (hk.alloc (.cells #[.bool a, .slice A n c] 24)).alloc (.cells #[.bool false, .slice none 0 0] 24)
  clear hu hv hv2 hna
  go_enter Tryz.func93, Tryz.ntmps93
  have ka0 := R0.cell 1 0 rfl rfl
  have ka1 := R0.cell 1 1 rfl rfl
  go_wp2_with fail
  refine (hd _ hl2 hk2).mono ?_; rintro e w1 ⟨A2, q2, A3, q3, rfl, ho, ho3, hq2, hq3, hb1⟩
  clear ka0 ka1
  have R1 := (R0.below hb1).add (ZIs.of_lim (b := a) (k := i) ho.ints (by omega))
  rw [vl_lmb] at R1
  have ka0 := R1.cell 1 0 rfl rfl
  have ka1 := R1.cell 1 1 rfl rfl
  go_wp2_with fail
  clear ka0 ka1
  refine (zplain (K := i) (R1.z 0 rfl) (by omega) (Nat.le_refl _)).mono ?_; rintro e w2 ⟨b_x, A_x, n_x, rfl, z_x, hb2⟩
  have R2 := ((R1.below hb2).add z_x)
  have kr0 := R2.cell 0 0 rfl rfl
  have kr1 := R2.cell 0 1 rfl rfl
  have fr0 := R2.frozen 0 0 rfl
  have fr1 := R2.frozen 0 1 rfl
  go_wp2_with fail
  have R9 := R2.st2 0 (.bool b_x) (.slice A_x n_x n_x) rfl rfl rfl
  refine bodyPost_ret (results_cell_row rfl _ _ (w.heap.size + 1) 24 #[.bool b_x, .slice A_x n_x n_x] (0, 0) _ rfl (R9.b 0 rfl).is Tryz.underlying24 rfl (by kernel_rfl)) rfl ?_
  exact ⟨b_x, A_x, n_x, rfl, (R9.z 0 rfl), R9.bel⟩
set_option maxRecDepth 100000 in
set_option maxHeartbeats 6400000 in
theorem qby {w : World} {a b : Bool} {A B : Option Addr} {n c m d : Nat} {x y : Int} {i j : Nat} {p q : Bool} (ha : ZIs w a A n c x i p) (hb : ZIs w b B m d y j q) (hi : i ≤ 1048576) (hj : j ≤ 1048576) (h0 : y ≠ 0) {r : Rat} (hr : Rat.divInt x y = r) : Calls Tryz.prog 50 #[.agg #[.bool a, .slice A n c], .agg #[.bool b, .slice B m d]] w fun e w' => ∃ b3 A3 n3 b4 A4 n4, e = .returned (.agg #[.bool b3, .slice A3 n3 n3, .bool b4, .slice A4 n4 n4]) ∧ ZIs w' b3 A3 n3 n3 (r.num) (max i j) true ∧ ZIs w' b4 A4 n4 n4 ((r.den : Nat) : Int) (max i j) true ∧ Below w.heap.size w w' := by
  have R0 := (((((Env.nil_ w).add ha).add hb).alloc 24 #[.bool a, .slice A n c] (g := w.heap.size) rfl rfl).alloc 24 #[.bool b, .slice B m d] (g := w.heap.size + 1) (by simp) rfl).alloc 26 #[.bool false, .slice none 0 0, .bool false, .slice none 0 0] (g := w.heap.size + 1 + 1) (by simp) rfl
  have hx0 : x.natAbs < 4294967296 ^ i := ha.lt
  have hy0 : y.natAbs < 4294967296 ^ j := hb.lt
  have HR := Lib.hid hr
  have H0 := Lib.hid h0
  clear hr h0 ha hb
  go_enter Tryz.func50, Tryz.ntmps50
  go_wp2_with fail
  have D1 := R0.drew
  have s1 := And.intro (D1.cell 2 0 rfl rfl) (And.intro (D1.cell 2 1 rfl rfl) (And.intro (D1.cell 1 0 rfl rfl) (D1.cell 1 1 rfl rfl)))
  refine wp_region_late [4, 5] (fun w' => w'.cell? ⟨w.heap.size, 0, none⟩ = some (.bool a) ∧ w'.cell? ⟨w.heap.size, 1, none⟩ = some (.slice A n c) ∧ w'.cell? ⟨w.heap.size + 1, 0, none⟩ = some (.bool b) ∧ w'.cell? ⟨w.heap.size + 1, 1, none⟩ = some (.slice B m d)) (by kernel_rfl) ?_
  refine wpAnyL_take (i := 0) (v := .agg #[.bool a, .slice A n c]) rfl (by kernel_rfl) (by kernel_rfl) (by kernel_rfl) (by kernel_rfl) (by kernel_rfl) (fun _ _ _ h => h) (Or.inl ⟨by rfl, by rintro w' ⟨h1, h2, h3, h4⟩; go_simp⟩) s1 ?_
  try simp only [Act.put, List.setIfInBounds_toArray, List.set_cons_zero, List.set_cons_succ]
  refine wpAnyL_take (i := 2) (v := .agg #[.bool b, .slice B m d]) rfl (by kernel_rfl) (by kernel_rfl) (by kernel_rfl) (by kernel_rfl) (by kernel_rfl) (fun _ _ _ h => h) (Or.inl ⟨by rfl, by rintro w' ⟨h1, h2, h3, h4⟩; go_simp⟩) s1 ?_
  try simp only [Act.put, List.setIfInBounds_toArray, List.set_cons_zero, List.set_cons_succ]
  refine wpAnyL_one (i := 1) (by kernel_rfl) rfl (fun K hK => ?_)
  go_simp
  refine (zplain (K := i) (D1.z 1 rfl) (by omega) (Nat.le_refl _)).mono ?_; rintro e w2 ⟨b_x1, A_x1, n_x1, rfl, z_x1, hb2⟩
  have R2 := ((D1.below hb2).add z_x1)
  have s2 := And.intro (R2.cell 2 0 rfl rfl) (And.intro (R2.cell 2 1 rfl rfl) (And.intro (R2.cell 1 0 rfl rfl) (R2.cell 1 1 rfl rfl)))
  go_wp2_with fail
  refine hK.out _ _ (fun _ => s2) ?_
  clear hK K
  try simp only [Act.put, List.setIfInBounds_toArray, List.set_cons_zero, List.set_cons_succ]
  refine wpAnyL_one (i := 3) (by kernel_rfl) rfl (fun K hK => ?_)
  go_simp
  refine (zplain (K := j) (R2.z 1 rfl) (by omega) (Nat.le_refl _)).mono ?_; rintro e w3 ⟨b_y1, A_y1, n_y1, rfl, z_y1, hb3⟩
  have R3 := ((R2.below hb3).add z_y1)
  have s3 := And.intro (R3.cell 2 0 rfl rfl) (And.intro (R3.cell 2 1 rfl rfl) (And.intro (R3.cell 1 0 rfl rfl) (R3.cell 1 1 rfl rfl)))
  go_wp2_with fail
  refine hK.out _ _ (fun _ => s3) ?_
  clear hK K
  try simp only [Act.put, List.setIfInBounds_toArray, List.set_cons_zero, List.set_cons_succ]
  have fca0 := R3.cell 2 0 rfl rfl
  have ffa0 := R3.frozen 2 0 rfl
  have fca1 := R3.cell 2 1 rfl rfl
  have ffa1 := R3.frozen 2 1 rfl
  have fcb0 := R3.cell 1 0 rfl rfl
  have ffb0 := R3.frozen 1 0 rfl
  have fcb1 := R3.cell 1 1 rfl rfl
  have ffb1 := R3.frozen 1 1 rfl
  refine wpAnyL_one (i := 4) (by kernel_rfl) rfl (fun K hK => ?_)
  go_simp
  refine hK.out _ _ (fun h => absurd (by simp) h) ?_
  clear hK K
  try simp only [Act.put, List.setIfInBounds_toArray, List.set_cons_zero, List.set_cons_succ]
  refine wpAnyL_one (i := 5) (by kernel_rfl) rfl (fun K hK => ?_)
  go_simp
  refine hK.out _ _ (fun h => absurd (by simp) h) ?_
  clear hK K
  try simp only [Act.put, List.setIfInBounds_toArray, List.set_cons_zero, List.set_cons_succ]
  refine wpAnyL_done (by kernel_rfl) ?_ _
  clear fca0 ffa0 fca1 ffa1 fcb0 ffb0 fcb1 ffb1
  have R4 := ((R3.st2 2 (.bool b_x1) (.slice A_x1 n_x1 n_x1) rfl rfl rfl).st2 1 (.bool b_y1) (.slice A_y1 n_y1 n_y1) rfl rfl rfl)
  generalize ((((w3.setCell ⟨w.heap.size, 0, none⟩ (.bool b_x1)).setCell ⟨w.heap.size, 1, none⟩ (.slice A_x1 n_x1 n_x1)).setCell ⟨w.heap.size + 1, 0, none⟩ (.bool b_y1)).setCell ⟨w.heap.size + 1, 1, none⟩ (.slice A_y1 n_y1 n_y1)) = w4 at *
  have hneg := (R4.z 0 rfl).neg_b
  by_cases hs : y < 0
  · obtain rfl : b_y1 = true := by rw [← hneg, decide_eq_true hs]
    clear hneg
    have ka0 := R4.cell 2 0 rfl rfl
    have ka1 := R4.cell 2 1 rfl rfl
    have kb0 := R4.cell 1 0 rfl rfl
    have kb1 := R4.cell 1 1 rfl rfl
    go_wp2_with fail
    clear ka0 ka1 kb0 kb1
    have D5 := R4.drew
    have s5 := And.intro (D5.cell 2 0 rfl rfl) (And.intro (D5.cell 2 1 rfl rfl) (And.intro (D5.cell 1 0 rfl rfl) (D5.cell 1 1 rfl rfl)))
    refine wp_region_late [6, 7] (fun w' => w'.cell? ⟨w.heap.size, 0, none⟩ = some (.bool b_x1) ∧ w'.cell? ⟨w.heap.size, 1, none⟩ = some (.slice A_x1 n_x1 n_x1) ∧ w'.cell? ⟨w.heap.size + 1, 0, none⟩ = some (.bool true) ∧ w'.cell? ⟨w.heap.size + 1, 1, none⟩ = some (.slice A_y1 n_y1 n_y1)) (by kernel_rfl) ?_
    refine wpAnyL_take (i := 0) (v := .agg #[.bool false, .slice none 0 0]) rfl (by kernel_rfl) (by kernel_rfl) (by kernel_rfl) (by kernel_rfl) (by kernel_rfl) (fun _ _ _ h => h) (Or.inl ⟨by rfl, by rintro w' ⟨h1, h2, h3, h4⟩; go_simp⟩) s5 ?_
    try simp only [Act.put, List.setIfInBounds_toArray, List.set_cons_zero, List.set_cons_succ]
    refine wpAnyL_take (i := 1) (v := .agg #[.bool b_x1, .slice A_x1 n_x1 n_x1]) rfl (by kernel_rfl) (by kernel_rfl) (by kernel_rfl) (by kernel_rfl) (by kernel_rfl) (fun _ _ _ h => h) (Or.inl ⟨by rfl, by rintro w' ⟨h1, h2, h3, h4⟩; go_simp⟩) s5 ?_
    try simp only [Act.put, List.setIfInBounds_toArray, List.set_cons_zero, List.set_cons_succ]
    refine wpAnyL_take (i := 3) (v := .agg #[.bool false, .slice none 0 0]) rfl (by kernel_rfl) (by kernel_rfl) (by kernel_rfl) (by kernel_rfl) (by kernel_rfl) (fun _ _ _ h => h) (Or.inl ⟨by rfl, by rintro w' ⟨h1, h2, h3, h4⟩; go_simp⟩) s5 ?_
    try simp only [Act.put, List.setIfInBounds_toArray, List.set_cons_zero, List.set_cons_succ]
    refine wpAnyL_take (i := 4) (v := .agg #[.bool true, .slice A_y1 n_y1 n_y1]) rfl (by kernel_rfl) (by kernel_rfl) (by kernel_rfl) (by kernel_rfl) (by kernel_rfl) (fun _ _ _ h => h) (Or.inl ⟨by rfl, by rintro w' ⟨h1, h2, h3, h4⟩; go_simp⟩) s5 ?_
    try simp only [Act.put, List.setIfInBounds_toArray, List.set_cons_zero, List.set_cons_succ]
    refine wpAnyL_one (i := 2) (by kernel_rfl) rfl (fun K hK => ?_)
    go_simp
    refine (zsub (K := i + 1) (ZIs.nil_ _ none 0 0) (D5.z 1 rfl) (by omega) (by omega) (by omega)).mono ?_; rintro e w6 ⟨b_x2, A_x2, n_x2, rfl, z_x2, hb6⟩
    have R6 := ((D5.below hb6).add z_x2)
    have s6 := And.intro (R6.cell 2 0 rfl rfl) (And.intro (R6.cell 2 1 rfl rfl) (And.intro (R6.cell 1 0 rfl rfl) (R6.cell 1 1 rfl rfl)))
    go_wp2_with fail
    refine hK.out _ _ (fun _ => s6) ?_
    clear hK K
    try simp only [Act.put, List.setIfInBounds_toArray, List.set_cons_zero, List.set_cons_succ]
    refine wpAnyL_one (i := 5) (by kernel_rfl) rfl (fun K hK => ?_)
    go_simp
    refine (zsub (K := j + 1) (ZIs.nil_ _ none 0 0) (R6.z 1 rfl) (by omega) (by omega) (by omega)).mono ?_; rintro e w7 ⟨b_y2, A_y2, n_y2, rfl, z_y2, hb7⟩
    have R7 := ((R6.below hb7).add z_y2)
    have s7 := And.intro (R7.cell 2 0 rfl rfl) (And.intro (R7.cell 2 1 rfl rfl) (And.intro (R7.cell 1 0 rfl rfl) (R7.cell 1 1 rfl rfl)))
    go_wp2_with fail
    refine hK.out _ _ (fun _ => s7) ?_
    clear hK K
    try simp only [Act.put, List.setIfInBounds_toArray, List.set_cons_zero, List.set_cons_succ]
    have fca0 := R7.cell 2 0 rfl rfl
    have ffa0 := R7.frozen 2 0 rfl
    have fca1 := R7.cell 2 1 rfl rfl
    have ffa1 := R7.frozen 2 1 rfl
    have fcb0 := R7.cell 1 0 rfl rfl
    have ffb0 := R7.frozen 1 0 rfl
    have fcb1 := R7.cell 1 1 rfl rfl
    have ffb1 := R7.frozen 1 1 rfl
    refine wpAnyL_one (i := 6) (by kernel_rfl) rfl (fun K hK => ?_)
    go_simp
    refine hK.out _ _ (fun h => absurd (by simp) h) ?_
    clear hK K
    try simp only [Act.put, List.setIfInBounds_toArray, List.set_cons_zero, List.set_cons_succ]
    refine wpAnyL_one (i := 7) (by kernel_rfl) rfl (fun K hK => ?_)
    go_simp
    refine hK.out _ _ (fun h => absurd (by simp) h) ?_
    clear hK K
    try simp only [Act.put, List.setIfInBounds_toArray, List.set_cons_zero, List.set_cons_succ]
    refine wpAnyL_done (by kernel_rfl) ?_ _
    clear fca0 ffa0 fca1 ffa1 fcb0 ffb0 fcb1 ffb1
    have R8 := ((R7.st2 2 (.bool b_x2) (.slice A_x2 n_x2 n_x2) rfl rfl rfl).st2 1 (.bool b_y2) (.slice A_y2 n_y2 n_y2) rfl rfl rfl)
    generalize ((((w7.setCell ⟨w.heap.size, 0, none⟩ (.bool b_x2)).setCell ⟨w.heap.size, 1, none⟩ (.slice A_x2 n_x2 n_x2)).setCell ⟨w.heap.size + 1, 0, none⟩ (.bool b_y2)).setCell ⟨w.heap.size + 1, 1, none⟩ (.slice A_y2 n_y2 n_y2)) = w8 at *
    have R9 := (R8.add ((R8.z 1 rfl).tight (K := i) (by rw [Int.zero_sub, Int.natAbs_neg]; exact hx0))).add ((R8.z 0 rfl).tight (K := j) (by rw [Int.zero_sub, Int.natAbs_neg]; exact hy0))
    have HY0 : Hid (0 < 0 - y) := Lib.hid (by omega)
    have HR2 : Hid (Rat.divInt (0 - x) (0 - y) = r) := Lib.hid (by rw [Int.zero_sub, Int.zero_sub, qdiv_neg]; exact HR.out)
    clear hs
    have zx := (R9.z 1 rfl)
    have zy := (R9.z 0 rfl)
    have hny : n_y2 ≠ 0 := fun h => by have := ((R9.z 0 rfl).zero_iff).1 h; have := HY0.out; omega
    have ka0 := R9.cell 2 0 rfl rfl
    have ka1 := R9.cell 2 1 rfl rfl
    have kb0 := R9.cell 1 0 rfl rfl
    have kb1 := R9.cell 1 1 rfl rfl
    have kr0 := R9.cell 0 0 rfl rfl
    have kr1 := R9.cell 0 1 rfl rfl
    have kr2 := R9.cell 0 2 rfl rfl
    have kr3 := R9.cell 0 3 rfl rfl
    have fr0 := R9.frozen 0 0 rfl
    have fr1 := R9.frozen 0 1 rfl
    have fr2 := R9.frozen 0 2 rfl
    have fr3 := R9.frozen 0 3 rfl
    by_cases h1 : (0 - y) = 1
    · obtain ⟨hn1, gA, oA, hA, hcA⟩ := ((R9.z 0 rfl).as h1).one_at
      have H1 := Lib.hid h1
      clear h1
      subst hn1 hA
      go_wp2_with fail
      have R9 := R9.st4 0 (.bool b_x2) (.slice A_x2 n_x2 n_x2) (.bool b_y2) (.slice (some ⟨gA, oA, none⟩) 1 1) rfl rfl rfl rfl rfl
      have hd1 := qdiv_one (0 - x)
      have hq : (0 - x) = r.num ∧ (r.den : Int) = 1 := by rw [← HR2.out, H1.out]; exact ⟨hd1.1.symm, by rw [hd1.2]; rfl⟩
      refine bodyPost_ret (results_cell_row rfl _ _ (w.heap.size + 1 + 1) 26 #[.bool b_x2, .slice A_x2 n_x2 n_x2, .bool b_y2, .slice (some ⟨gA, oA, none⟩) 1 1] (0, 0) _ rfl (R9.b 0 rfl).is Tryz.underlying26 rfl (by kernel_rfl)) rfl ?_
      exact ⟨_, _, _, _, _, _, rfl, ((R9.z 1 rfl).as hq.1).mono (by omega), ((R9.z 0 rfl).as (H1.out.trans hq.2.symm)).mono (by omega), R9.bel⟩
    by_cases hn1 : n_y2 = 1
    · obtain ⟨gA, oA, u, hA, hcA, hu⟩ := ((by rw [← hn1]; exact (R9.z 0 rfl)) : ZIs _ b_y2 A_y2 1 n_y2 (0 - y) j true).limb_at h1 HY0.out
      have hub : (((u : Nat) : Int) == 1) = false := by simp; omega
      have hn1b : ((n_y2 : Int) == 1) = true := by simp; omega
      have hn1p : 0 < n_y2 := by omega
      subst hA
      clear h1 hn1
      obtain ⟨lx, hlx, hvx, _⟩ := (R9.z 1 rfl).lim
      obtain ⟨ly, hly, hvy, _⟩ := (R9.z 0 rfl).lim
      have fx := zx.few
      have fy := zy.few
      have hgc := fun w0 h0 h1 => gcd_any A_x2 (some ⟨gA, oA, none⟩) n_x2 n_x2 n_y2 n_y2 lx ly w0 h0 h1 (by omega) (by omega)
      rw [hvx, hvy] at hgc
      obtain ⟨gc, hgcd⟩ : ∃ gc, Nat.gcd ((0 - x)).natAbs ((0 - y)).natAbs = gc := ⟨_, rfl⟩
      rw [hgcd] at hgc
      have hgp : (gc : Int) ≠ 0 := by have : 0 < Nat.gcd ((0 - x)).natAbs ((0 - y)).natAbs := Nat.gcd_pos_of_pos_right _ (by have := HY0.out; omega); omega
      have HGP := Lib.hid hgp
      have HG := Lib.hid hgcd
      clear hgcd hvx hvy hgp
      go_wp2_with fail
      clear ka0 ka1 kb0 kb1 kr0 kr1 kr2 kr3 fr0 fr1 fr2 fr3
      refine (hgc _ hlx hly).mono ?_; rintro e w10 ⟨A_g, n_g, rfl, hm_g, ho_g, hb10⟩
      have zg : ZIs w10 false A_g n_g n_g (gc : Int) (2 * max i j) true := ZIs.plain (by rw [Int.natAbs_natCast]; exact ho_g.ints) (decide_eq_false (by omega)) (by omega)
      have R10 := ((R9.below hb10).add zg).alloc 24 #[.bool false, .slice A_g n_g n_g] (g := w10.heap.size) rfl rfl
      go_wp2_with fail
      have D11 := R10.drew
      have s11 := And.intro (D11.cell 3 0 rfl rfl) (And.intro (D11.cell 3 1 rfl rfl) (And.intro (D11.cell 2 0 rfl rfl) (D11.cell 2 1 rfl rfl)))
      refine wp_region_late [7] (fun w' => w'.cell? ⟨w.heap.size, 0, none⟩ = some (.bool b_x2) ∧ w'.cell? ⟨w.heap.size, 1, none⟩ = some (.slice A_x2 n_x2 n_x2) ∧ w'.cell? ⟨w.heap.size + 1, 0, none⟩ = some (.bool b_y2) ∧ w'.cell? ⟨w.heap.size + 1, 1, none⟩ = some (.slice (some ⟨gA, oA, none⟩) n_y2 n_y2)) (by kernel_rfl) ?_
      refine wpAnyL_take (i := 0) (v := ?_) rfl (by kernel_rfl) (by kernel_rfl) (by kernel_rfl) (by kernel_rfl) (by kernel_rfl) (fun _ _ _ h => h) (Or.inl ⟨by kernel_rfl, ?_⟩) s11 ?_
      rotate_left
      · rintro w' ⟨h1, h2, h3, h4⟩; go_simp; (try with_reducible rfl)
      try simp only [Act.put, List.setIfInBounds_toArray, List.set_cons_zero, List.set_cons_succ]
      refine wpAnyL_take (i := 1) (v := .agg #[.bool b_x2, .slice A_x2 n_x2 n_x2]) rfl (by kernel_rfl) (by kernel_rfl) (by kernel_rfl) (by kernel_rfl) (by kernel_rfl) (fun _ _ _ h => h) (Or.inl ⟨by rfl, by rintro w' ⟨h1, h2, h3, h4⟩; go_simp⟩) s11 ?_
      try simp only [Act.put, List.setIfInBounds_toArray, List.set_cons_zero, List.set_cons_succ]
      refine wpAnyL_take (i := 3) (v := ?_) rfl (by kernel_rfl) (by kernel_rfl) (by kernel_rfl) (by kernel_rfl) (by kernel_rfl) (fun _ _ _ h => h) (Or.inl ⟨by kernel_rfl, ?_⟩) s11 ?_
      rotate_left
      · rintro w' ⟨h1, h2, h3, h4⟩; go_simp; (try with_reducible rfl)
      try simp only [Act.put, List.setIfInBounds_toArray, List.set_cons_zero, List.set_cons_succ]
      refine wpAnyL_take (i := 4) (v := .agg #[.bool b_y2, .slice (some ⟨gA, oA, none⟩) n_y2 n_y2]) rfl (by kernel_rfl) (by kernel_rfl) (by kernel_rfl) (by kernel_rfl) (by kernel_rfl) (fun _ _ _ h => h) (Or.inl ⟨by rfl, by rintro w' ⟨h1, h2, h3, h4⟩; go_simp⟩) s11 ?_
      try simp only [Act.put, List.setIfInBounds_toArray, List.set_cons_zero, List.set_cons_succ]
      refine wpAnyL_one (i := 2) (by kernel_rfl) rfl (fun K hK => ?_)
      go_simp
      refine (qexact _ (D11.b 0 rfl) (D11.z 2 rfl) (D11.z 0 rfl) HGP.out (by omega) (by omega)).mono ?_; rintro e w12 ⟨b_p, A_p, n_p, rfl, z_p, hb12⟩
      have R12 := ((D11.below hb12).add z_p)
      have s12 := And.intro (R12.cell 3 0 rfl rfl) (And.intro (R12.cell 3 1 rfl rfl) (And.intro (R12.cell 2 0 rfl rfl) (R12.cell 2 1 rfl rfl)))
      go_wp2_with fail
      refine hK.out _ _ (fun _ => s12) ?_
      clear hK K
      try simp only [Act.put, List.setIfInBounds_toArray, List.set_cons_zero, List.set_cons_succ]
      refine wpAnyL_one (i := 5) (by kernel_rfl) rfl (fun K hK => ?_)
      go_simp
      refine (qexact _ (R12.b 0 rfl) (R12.z 2 rfl) (R12.z 1 rfl) HGP.out (by omega) (by omega)).mono ?_; rintro e w13 ⟨b_q, A_q, n_q, rfl, z_q, hb13⟩
      have R13 := ((R12.below hb13).add z_q)
      have s13 := And.intro (R13.cell 3 0 rfl rfl) (And.intro (R13.cell 3 1 rfl rfl) (And.intro (R13.cell 2 0 rfl rfl) (R13.cell 2 1 rfl rfl)))
      go_wp2_with fail
      refine hK.out _ _ (fun _ => s13) ?_
      clear hK K
      try simp only [Act.put, List.setIfInBounds_toArray, List.set_cons_zero, List.set_cons_succ]
      refine wpAnyL_one (i := 6) (by kernel_rfl) rfl (fun K hK => ?_)
      go_simp
      refine hK.out _ _ (fun _ => s13) ?_
      clear hK K
      try simp only [Act.put, List.setIfInBounds_toArray, List.set_cons_zero, List.set_cons_succ]
      have fcr0 := R13.cell 1 0 rfl rfl
      have ffr0 := R13.frozen 1 0 rfl
      have fcr1 := R13.cell 1 1 rfl rfl
      have ffr1 := R13.frozen 1 1 rfl
      have fcr2 := R13.cell 1 2 rfl rfl
      have ffr2 := R13.frozen 1 2 rfl
      have fcr3 := R13.cell 1 3 rfl rfl
      have ffr3 := R13.frozen 1 3 rfl
      refine wpAnyL_one (i := 7) (by kernel_rfl) rfl (fun K hK => ?_)
      go_simp
      refine hK.out _ _ (fun h => absurd (by simp) h) ?_
      clear hK K
      try simp only [Act.put, List.setIfInBounds_toArray, List.set_cons_zero, List.set_cons_succ]
      refine wpAnyL_done (by kernel_rfl) ?_ _
      clear fcr0 ffr0 fcr1 ffr1 fcr2 ffr2 fcr3 ffr3
      have R14 := (R13.st4 1 (.bool b_p) (.slice A_p n_p n_p) (.bool b_q) (.slice A_q n_q n_q) rfl rfl rfl rfl rfl)
      generalize ((((w13.setCell ⟨w.heap.size + 1 + 1, 0, none⟩ (.bool b_p)).setCell ⟨w.heap.size + 1 + 1, 1, none⟩ (.slice A_p n_p n_p)).setCell ⟨w.heap.size + 1 + 1, 2, none⟩ (.bool b_q)).setCell ⟨w.heap.size + 1 + 1, 3, none⟩ (.slice A_q n_q n_q)) = w14 at *
      go_wp2_with fail
      refine bodyPost_ret (results_cell_row rfl _ _ (w.heap.size + 1 + 1) 26 #[.bool b_p, .slice A_p n_p n_p, .bool b_q, .slice A_q n_q n_q] (0, 0) _ rfl (R14.b 1 rfl).is Tryz.underlying26 rfl (by kernel_rfl)) rfl ?_
      have q1 := qnum_of (x := (0 - x)) (y := (0 - y)) HY0.out
      have q2 := qden_of (x := (0 - x)) (y := (0 - y)) HY0.out
      rw [HR2.out, HG.out] at q1 q2
      have q3 : zv (decide ((0 - y) < 0)) (((0 - y)).natAbs / (gc : Int).natAbs) = ((r.den : Nat) : Int) := by rw [decide_eq_false (by have := HY0.out; omega), zv_false, q2, Int.natAbs_natCast]
      exact ⟨_, _, _, _, _, _, rfl, ((R14.z 1 rfl).as (by rw [q1, Int.natAbs_natCast])).mono (by omega), ((R14.z 0 rfl).as q3).mono (by omega), R14.bel⟩
    · have hn1b : ((n_y2 : Int) == 1) = false := by simp; omega
      clear h1 hn1
      obtain ⟨lx, hlx, hvx, _⟩ := (R9.z 1 rfl).lim
      obtain ⟨ly, hly, hvy, _⟩ := (R9.z 0 rfl).lim
      have fx := zx.few
      have fy := zy.few
      have hgc := fun w0 h0 h1 => gcd_any A_x2 A_y2 n_x2 n_x2 n_y2 n_y2 lx ly w0 h0 h1 (by omega) (by omega)
      rw [hvx, hvy] at hgc
      obtain ⟨gc, hgcd⟩ : ∃ gc, Nat.gcd ((0 - x)).natAbs ((0 - y)).natAbs = gc := ⟨_, rfl⟩
      rw [hgcd] at hgc
      have hgp : (gc : Int) ≠ 0 := by have : 0 < Nat.gcd ((0 - x)).natAbs ((0 - y)).natAbs := Nat.gcd_pos_of_pos_right _ (by have := HY0.out; omega); omega
      have HGP := Lib.hid hgp
      have HG := Lib.hid hgcd
      clear hgcd hvx hvy hgp
      go_wp2_with fail
      clear ka0 ka1 kb0 kb1 kr0 kr1 kr2 kr3 fr0 fr1 fr2 fr3
      refine (hgc _ hlx hly).mono ?_; rintro e w10 ⟨A_g, n_g, rfl, hm_g, ho_g, hb10⟩
      have zg : ZIs w10 false A_g n_g n_g (gc : Int) (2 * max i j) true := ZIs.plain (by rw [Int.natAbs_natCast]; exact ho_g.ints) (decide_eq_false (by omega)) (by omega)
      have R10 := ((R9.below hb10).add zg).alloc 24 #[.bool false, .slice A_g n_g n_g] (g := w10.heap.size) rfl rfl
      go_wp2_with fail
      have D11 := R10.drew
      have s11 := And.intro (D11.cell 3 0 rfl rfl) (And.intro (D11.cell 3 1 rfl rfl) (And.intro (D11.cell 2 0 rfl rfl) (D11.cell 2 1 rfl rfl)))
      refine wp_region_late [7] (fun w' => w'.cell? ⟨w.heap.size, 0, none⟩ = some (.bool b_x2) ∧ w'.cell? ⟨w.heap.size, 1, none⟩ = some (.slice A_x2 n_x2 n_x2) ∧ w'.cell? ⟨w.heap.size + 1, 0, none⟩ = some (.bool b_y2) ∧ w'.cell? ⟨w.heap.size + 1, 1, none⟩ = some (.slice A_y2 n_y2 n_y2)) (by kernel_rfl) ?_
      refine wpAnyL_take (i := 0) (v := ?_) rfl (by kernel_rfl) (by kernel_rfl) (by kernel_rfl) (by kernel_rfl) (by kernel_rfl) (fun _ _ _ h => h) (Or.inl ⟨by kernel_rfl, ?_⟩) s11 ?_
      rotate_left
      · rintro w' ⟨h1, h2, h3, h4⟩; go_simp; (try with_reducible rfl)
      try simp only [Act.put, List.setIfInBounds_toArray, List.set_cons_zero, List.set_cons_succ]
      refine wpAnyL_take (i := 1) (v := .agg #[.bool b_x2, .slice A_x2 n_x2 n_x2]) rfl (by kernel_rfl) (by kernel_rfl) (by kernel_rfl) (by kernel_rfl) (by kernel_rfl) (fun _ _ _ h => h) (Or.inl ⟨by rfl, by rintro w' ⟨h1, h2, h3, h4⟩; go_simp⟩) s11 ?_
      try simp only [Act.put, List.setIfInBounds_toArray, List.set_cons_zero, List.set_cons_succ]
      refine wpAnyL_take (i := 3) (v := ?_) rfl (by kernel_rfl) (by kernel_rfl) (by kernel_rfl) (by kernel_rfl) (by kernel_rfl) (fun _ _ _ h => h) (Or.inl ⟨by kernel_rfl, ?_⟩) s11 ?_
      rotate_left
      · rintro w' ⟨h1, h2, h3, h4⟩; go_simp; (try with_reducible rfl)
      try simp only [Act.put, List.setIfInBounds_toArray, List.set_cons_zero, List.set_cons_succ]
      refine wpAnyL_take (i := 4) (v := .agg #[.bool b_y2, .slice A_y2 n_y2 n_y2]) rfl (by kernel_rfl) (by kernel_rfl) (by kernel_rfl) (by kernel_rfl) (by kernel_rfl) (fun _ _ _ h => h) (Or.inl ⟨by rfl, by rintro w' ⟨h1, h2, h3, h4⟩; go_simp⟩) s11 ?_
      try simp only [Act.put, List.setIfInBounds_toArray, List.set_cons_zero, List.set_cons_succ]
      refine wpAnyL_one (i := 2) (by kernel_rfl) rfl (fun K hK => ?_)
      go_simp
      refine (qexact _ (D11.b 0 rfl) (D11.z 2 rfl) (D11.z 0 rfl) HGP.out (by omega) (by omega)).mono ?_; rintro e w12 ⟨b_p, A_p, n_p, rfl, z_p, hb12⟩
      have R12 := ((D11.below hb12).add z_p)
      have s12 := And.intro (R12.cell 3 0 rfl rfl) (And.intro (R12.cell 3 1 rfl rfl) (And.intro (R12.cell 2 0 rfl rfl) (R12.cell 2 1 rfl rfl)))
      go_wp2_with fail
      refine hK.out _ _ (fun _ => s12) ?_
      clear hK K
      try simp only [Act.put, List.setIfInBounds_toArray, List.set_cons_zero, List.set_cons_succ]
      refine wpAnyL_one (i := 5) (by kernel_rfl) rfl (fun K hK => ?_)
      go_simp
      refine (qexact _ (R12.b 0 rfl) (R12.z 2 rfl) (R12.z 1 rfl) HGP.out (by omega) (by omega)).mono ?_; rintro e w13 ⟨b_q, A_q, n_q, rfl, z_q, hb13⟩
      have R13 := ((R12.below hb13).add z_q)
      have s13 := And.intro (R13.cell 3 0 rfl rfl) (And.intro (R13.cell 3 1 rfl rfl) (And.intro (R13.cell 2 0 rfl rfl) (R13.cell 2 1 rfl rfl)))
      go_wp2_with fail
      refine hK.out _ _ (fun _ => s13) ?_
      clear hK K
      try simp only [Act.put, List.setIfInBounds_toArray, List.set_cons_zero, List.set_cons_succ]
      refine wpAnyL_one (i := 6) (by kernel_rfl) rfl (fun K hK => ?_)
      go_simp
      refine hK.out _ _ (fun _ => s13) ?_
      clear hK K
      try simp only [Act.put, List.setIfInBounds_toArray, List.set_cons_zero, List.set_cons_succ]
      have fcr0 := R13.cell 1 0 rfl rfl
      have ffr0 := R13.frozen 1 0 rfl
      have fcr1 := R13.cell 1 1 rfl rfl
      have ffr1 := R13.frozen 1 1 rfl
      have fcr2 := R13.cell 1 2 rfl rfl
      have ffr2 := R13.frozen 1 2 rfl
      have fcr3 := R13.cell 1 3 rfl rfl
      have ffr3 := R13.frozen 1 3 rfl
      refine wpAnyL_one (i := 7) (by kernel_rfl) rfl (fun K hK => ?_)
      go_simp
      refine hK.out _ _ (fun h => absurd (by simp) h) ?_
      clear hK K
      try simp only [Act.put, List.setIfInBounds_toArray, List.set_cons_zero, List.set_cons_succ]
      refine wpAnyL_done (by kernel_rfl) ?_ _
      clear fcr0 ffr0 fcr1 ffr1 fcr2 ffr2 fcr3 ffr3
      have R14 := (R13.st4 1 (.bool b_p) (.slice A_p n_p n_p) (.bool b_q) (.slice A_q n_q n_q) rfl rfl rfl rfl rfl)
      generalize ((((w13.setCell ⟨w.heap.size + 1 + 1, 0, none⟩ (.bool b_p)).setCell ⟨w.heap.size + 1 + 1, 1, none⟩ (.slice A_p n_p n_p)).setCell ⟨w.heap.size + 1 + 1, 2, none⟩ (.bool b_q)).setCell ⟨w.heap.size + 1 + 1, 3, none⟩ (.slice A_q n_q n_q)) = w14 at *
      go_wp2_with fail
      refine bodyPost_ret (results_cell_row rfl _ _ (w.heap.size + 1 + 1) 26 #[.bool b_p, .slice A_p n_p n_p, .bool b_q, .slice A_q n_q n_q] (0, 0) _ rfl (R14.b 1 rfl).is Tryz.underlying26 rfl (by kernel_rfl)) rfl ?_
      have q1 := qnum_of (x := (0 - x)) (y := (0 - y)) HY0.out
      have q2 := qden_of (x := (0 - x)) (y := (0 - y)) HY0.out
      rw [HR2.out, HG.out] at q1 q2
      have q3 : zv (decide ((0 - y) < 0)) (((0 - y)).natAbs / (gc : Int).natAbs) = ((r.den : Nat) : Int) := by rw [decide_eq_false (by have := HY0.out; omega), zv_false, q2, Int.natAbs_natCast]
      exact ⟨_, _, _, _, _, _, rfl, ((R14.z 1 rfl).as (by rw [q1, Int.natAbs_natCast])).mono (by omega), ((R14.z 0 rfl).as q3).mono (by omega), R14.bel⟩
  · obtain rfl : b_y1 = false := by rw [← hneg, decide_eq_false hs]
    have HY0 : Hid (0 < y) := Lib.hid (by have := H0.out; omega)
    have HR2 : Hid (Rat.divInt x y = r) := Lib.hid HR.out
    clear hs hneg
    have zx := (R4.z 1 rfl)
    have zy := (R4.z 0 rfl)
    have hny : n_y1 ≠ 0 := fun h => by have := ((R4.z 0 rfl).zero_iff).1 h; have := HY0.out; omega
    have ka0 := R4.cell 2 0 rfl rfl
    have ka1 := R4.cell 2 1 rfl rfl
    have kb0 := R4.cell 1 0 rfl rfl
    have kb1 := R4.cell 1 1 rfl rfl
    have kr0 := R4.cell 0 0 rfl rfl
    have kr1 := R4.cell 0 1 rfl rfl
    have kr2 := R4.cell 0 2 rfl rfl
    have kr3 := R4.cell 0 3 rfl rfl
    have fr0 := R4.frozen 0 0 rfl
    have fr1 := R4.frozen 0 1 rfl
    have fr2 := R4.frozen 0 2 rfl
    have fr3 := R4.frozen 0 3 rfl
    by_cases h1 : y = 1
    · obtain ⟨hn1, gA, oA, hA, hcA⟩ := ((R4.z 0 rfl).as h1).one_at
      have H1 := Lib.hid h1
      clear h1
      subst hn1 hA
      go_wp2_with fail
      have R9 := R4.st4 0 (.bool b_x1) (.slice A_x1 n_x1 n_x1) (.bool false) (.slice (some ⟨gA, oA, none⟩) 1 1) rfl rfl rfl rfl rfl
      have hd1 := qdiv_one x
      have hq : x = r.num ∧ (r.den : Int) = 1 := by rw [← HR2.out, H1.out]; exact ⟨hd1.1.symm, by rw [hd1.2]; rfl⟩
      refine bodyPost_ret (results_cell_row rfl _ _ (w.heap.size + 1 + 1) 26 #[.bool b_x1, .slice A_x1 n_x1 n_x1, .bool false, .slice (some ⟨gA, oA, none⟩) 1 1] (0, 0) _ rfl (R9.b 0 rfl).is Tryz.underlying26 rfl (by kernel_rfl)) rfl ?_
      exact ⟨_, _, _, _, _, _, rfl, ((R9.z 1 rfl).as hq.1).mono (by omega), ((R9.z 0 rfl).as (H1.out.trans hq.2.symm)).mono (by omega), R9.bel⟩
    by_cases hn1 : n_y1 = 1
    · obtain ⟨gA, oA, u, hA, hcA, hu⟩ := ((by rw [← hn1]; exact (R4.z 0 rfl)) : ZIs _ false A_y1 1 n_y1 y j true).limb_at h1 HY0.out
      have hub : (((u : Nat) : Int) == 1) = false := by simp; omega
      have hn1b : ((n_y1 : Int) == 1) = true := by simp; omega
      have hn1p : 0 < n_y1 := by omega
      subst hA
      clear h1 hn1
      obtain ⟨lx, hlx, hvx, _⟩ := (R4.z 1 rfl).lim
      obtain ⟨ly, hly, hvy, _⟩ := (R4.z 0 rfl).lim
      have fx := zx.few
      have fy := zy.few
      have hgc := fun w0 h0 h1 => gcd_any A_x1 (some ⟨gA, oA, none⟩) n_x1 n_x1 n_y1 n_y1 lx ly w0 h0 h1 (by omega) (by omega)
      rw [hvx, hvy] at hgc
      obtain ⟨gc, hgcd⟩ : ∃ gc, Nat.gcd (x).natAbs (y).natAbs = gc := ⟨_, rfl⟩
      rw [hgcd] at hgc
      have hgp : (gc : Int) ≠ 0 := by have : 0 < Nat.gcd (x).natAbs (y).natAbs := Nat.gcd_pos_of_pos_right _ (by have := HY0.out; omega); omega
      have HGP := Lib.hid hgp
      have HG := Lib.hid hgcd
      clear hgcd hvx hvy hgp
      go_wp2_with fail
      clear ka0 ka1 kb0 kb1 kr0 kr1 kr2 kr3 fr0 fr1 fr2 fr3
      refine (hgc _ hlx hly).mono ?_; rintro e w5 ⟨A_g, n_g, rfl, hm_g, ho_g, hb5⟩
      have zg : ZIs w5 false A_g n_g n_g (gc : Int) (2 * max i j) true := ZIs.plain (by rw [Int.natAbs_natCast]; exact ho_g.ints) (decide_eq_false (by omega)) (by omega)
      have R5 := ((R4.below hb5).add zg).alloc 24 #[.bool false, .slice A_g n_g n_g] (g := w5.heap.size) rfl rfl
      go_wp2_with fail
      have D6 := R5.drew
      have s6 := And.intro (D6.cell 3 0 rfl rfl) (And.intro (D6.cell 3 1 rfl rfl) (And.intro (D6.cell 2 0 rfl rfl) (D6.cell 2 1 rfl rfl)))
      refine wp_region_late [7] (fun w' => w'.cell? ⟨w.heap.size, 0, none⟩ = some (.bool b_x1) ∧ w'.cell? ⟨w.heap.size, 1, none⟩ = some (.slice A_x1 n_x1 n_x1) ∧ w'.cell? ⟨w.heap.size + 1, 0, none⟩ = some (.bool false) ∧ w'.cell? ⟨w.heap.size + 1, 1, none⟩ = some (.slice (some ⟨gA, oA, none⟩) n_y1 n_y1)) (by kernel_rfl) ?_
      refine wpAnyL_take (i := 0) (v := ?_) rfl (by kernel_rfl) (by kernel_rfl) (by kernel_rfl) (by kernel_rfl) (by kernel_rfl) (fun _ _ _ h => h) (Or.inl ⟨by kernel_rfl, ?_⟩) s6 ?_
      rotate_left
      · rintro w' ⟨h1, h2, h3, h4⟩; go_simp; (try with_reducible rfl)
      try simp only [Act.put, List.setIfInBounds_toArray, List.set_cons_zero, List.set_cons_succ]
      refine wpAnyL_take (i := 1) (v := .agg #[.bool b_x1, .slice A_x1 n_x1 n_x1]) rfl (by kernel_rfl) (by kernel_rfl) (by kernel_rfl) (by kernel_rfl) (by kernel_rfl) (fun _ _ _ h => h) (Or.inl ⟨by rfl, by rintro w' ⟨h1, h2, h3, h4⟩; go_simp⟩) s6 ?_
      try simp only [Act.put, List.setIfInBounds_toArray, List.set_cons_zero, List.set_cons_succ]
      refine wpAnyL_take (i := 3) (v := ?_) rfl (by kernel_rfl) (by kernel_rfl) (by kernel_rfl) (by kernel_rfl) (by kernel_rfl) (fun _ _ _ h => h) (Or.inl ⟨by kernel_rfl, ?_⟩) s6 ?_
      rotate_left
      · rintro w' ⟨h1, h2, h3, h4⟩; go_simp; (try with_reducible rfl)
      try simp only [Act.put, List.setIfInBounds_toArray, List.set_cons_zero, List.set_cons_succ]
      refine wpAnyL_take (i := 4) (v := .agg #[.bool false, .slice (some ⟨gA, oA, none⟩) n_y1 n_y1]) rfl (by kernel_rfl) (by kernel_rfl) (by kernel_rfl) (by kernel_rfl) (by kernel_rfl) (fun _ _ _ h => h) (Or.inl ⟨by rfl, by rintro w' ⟨h1, h2, h3, h4⟩; go_simp⟩) s6 ?_
      try simp only [Act.put, List.setIfInBounds_toArray, List.set_cons_zero, List.set_cons_succ]
      refine wpAnyL_one (i := 2) (by kernel_rfl) rfl (fun K hK => ?_)
      go_simp
      refine (qexact _ (D6.b 0 rfl) (D6.z 2 rfl) (D6.z 0 rfl) HGP.out (by omega) (by omega)).mono ?_; rintro e w7 ⟨b_p, A_p, n_p, rfl, z_p, hb7⟩
      have R7 := ((D6.below hb7).add z_p)
      have s7 := And.intro (R7.cell 3 0 rfl rfl) (And.intro (R7.cell 3 1 rfl rfl) (And.intro (R7.cell 2 0 rfl rfl) (R7.cell 2 1 rfl rfl)))
      go_wp2_with fail
      refine hK.out _ _ (fun _ => s7) ?_
      clear hK K
      try simp only [Act.put, List.setIfInBounds_toArray, List.set_cons_zero, List.set_cons_succ]
      refine wpAnyL_one (i := 5) (by kernel_rfl) rfl (fun K hK => ?_)
      go_simp
      refine (qexact _ (R7.b 0 rfl) (R7.z 2 rfl) (R7.z 1 rfl) HGP.out (by omega) (by omega)).mono ?_; rintro e w8 ⟨b_q, A_q, n_q, rfl, z_q, hb8⟩
      have R8 := ((R7.below hb8).add z_q)
      have s8 := And.intro (R8.cell 3 0 rfl rfl) (And.intro (R8.cell 3 1 rfl rfl) (And.intro (R8.cell 2 0 rfl rfl) (R8.cell 2 1 rfl rfl)))
      go_wp2_with fail
      refine hK.out _ _ (fun _ => s8) ?_
      clear hK K
      try simp only [Act.put, List.setIfInBounds_toArray, List.set_cons_zero, List.set_cons_succ]
      refine wpAnyL_one (i := 6) (by kernel_rfl) rfl (fun K hK => ?_)
      go_simp
      refine hK.out _ _ (fun _ => s8) ?_
      clear hK K
      try simp only [Act.put, List.setIfInBounds_toArray, List.set_cons_zero, List.set_cons_succ]
      have fcr0 := R8.cell 1 0 rfl rfl
      have ffr0 := R8.frozen 1 0 rfl
      have fcr1 := R8.cell 1 1 rfl rfl
      have ffr1 := R8.frozen 1 1 rfl
      have fcr2 := R8.cell 1 2 rfl rfl
      have ffr2 := R8.frozen 1 2 rfl
      have fcr3 := R8.cell 1 3 rfl rfl
      have ffr3 := R8.frozen 1 3 rfl
      refine wpAnyL_one (i := 7) (by kernel_rfl) rfl (fun K hK => ?_)
      go_simp
      refine hK.out _ _ (fun h => absurd (by simp) h) ?_
      clear hK K
      try simp only [Act.put, List.setIfInBounds_toArray, List.set_cons_zero, List.set_cons_succ]
      refine wpAnyL_done (by kernel_rfl) ?_ _
      clear fcr0 ffr0 fcr1 ffr1 fcr2 ffr2 fcr3 ffr3
      have R9 := (R8.st4 1 (.bool b_p) (.slice A_p n_p n_p) (.bool b_q) (.slice A_q n_q n_q) rfl rfl rfl rfl rfl)
      generalize ((((w8.setCell ⟨w.heap.size + 1 + 1, 0, none⟩ (.bool b_p)).setCell ⟨w.heap.size + 1 + 1, 1, none⟩ (.slice A_p n_p n_p)).setCell ⟨w.heap.size + 1 + 1, 2, none⟩ (.bool b_q)).setCell ⟨w.heap.size + 1 + 1, 3, none⟩ (.slice A_q n_q n_q)) = w9 at *
      go_wp2_with fail
      refine bodyPost_ret (results_cell_row rfl _ _ (w.heap.size + 1 + 1) 26 #[.bool b_p, .slice A_p n_p n_p, .bool b_q, .slice A_q n_q n_q] (0, 0) _ rfl (R9.b 1 rfl).is Tryz.underlying26 rfl (by kernel_rfl)) rfl ?_
      have q1 := qnum_of (x := x) (y := y) HY0.out
      have q2 := qden_of (x := x) (y := y) HY0.out
      rw [HR2.out, HG.out] at q1 q2
      have q3 : zv (decide (y < 0)) ((y).natAbs / (gc : Int).natAbs) = ((r.den : Nat) : Int) := by rw [decide_eq_false (by have := HY0.out; omega), zv_false, q2, Int.natAbs_natCast]
      exact ⟨_, _, _, _, _, _, rfl, ((R9.z 1 rfl).as (by rw [q1, Int.natAbs_natCast])).mono (by omega), ((R9.z 0 rfl).as q3).mono (by omega), R9.bel⟩
    · have hn1b : ((n_y1 : Int) == 1) = false := by simp; omega
      clear h1 hn1
      obtain ⟨lx, hlx, hvx, _⟩ := (R4.z 1 rfl).lim
      obtain ⟨ly, hly, hvy, _⟩ := (R4.z 0 rfl).lim
      have fx := zx.few
      have fy := zy.few
      have hgc := fun w0 h0 h1 => gcd_any A_x1 A_y1 n_x1 n_x1 n_y1 n_y1 lx ly w0 h0 h1 (by omega) (by omega)
      rw [hvx, hvy] at hgc
      obtain ⟨gc, hgcd⟩ : ∃ gc, Nat.gcd (x).natAbs (y).natAbs = gc := ⟨_, rfl⟩
      rw [hgcd] at hgc
      have hgp : (gc : Int) ≠ 0 := by have : 0 < Nat.gcd (x).natAbs (y).natAbs := Nat.gcd_pos_of_pos_right _ (by have := HY0.out; omega); omega
      have HGP := Lib.hid hgp
      have HG := Lib.hid hgcd
      clear hgcd hvx hvy hgp
      go_wp2_with fail
      clear ka0 ka1 kb0 kb1 kr0 kr1 kr2 kr3 fr0 fr1 fr2 fr3
      refine (hgc _ hlx hly).mono ?_; rintro e w5 ⟨A_g, n_g, rfl, hm_g, ho_g, hb5⟩
      have zg : ZIs w5 false A_g n_g n_g (gc : Int) (2 * max i j) true := ZIs.plain (by rw [Int.natAbs_natCast]; exact ho_g.ints) (decide_eq_false (by omega)) (by omega)
      have R5 := ((R4.below hb5).add zg).alloc 24 #[.bool false, .slice A_g n_g n_g] (g := w5.heap.size) rfl rfl
      go_wp2_with fail
      have D6 := R5.drew
      have s6 := And.intro (D6.cell 3 0 rfl rfl) (And.intro (D6.cell 3 1 rfl rfl) (And.intro (D6.cell 2 0 rfl rfl) (D6.cell 2 1 rfl rfl)))
      refine wp_region_late [7] (fun w' => w'.cell? ⟨w.heap.size, 0, none⟩ = some (.bool b_x1) ∧ w'.cell? ⟨w.heap.size, 1, none⟩ = some (.slice A_x1 n_x1 n_x1) ∧ w'.cell? ⟨w.heap.size + 1, 0, none⟩ = some (.bool false) ∧ w'.cell? ⟨w.heap.size + 1, 1, none⟩ = some (.slice A_y1 n_y1 n_y1)) (by kernel_rfl) ?_
      refine wpAnyL_take (i := 0) (v := ?_) rfl (by kernel_rfl) (by kernel_rfl) (by kernel_rfl) (by kernel_rfl) (by kernel_rfl) (fun _ _ _ h => h) (Or.inl ⟨by kernel_rfl, ?_⟩) s6 ?_
      rotate_left
      · rintro w' ⟨h1, h2, h3, h4⟩; go_simp; (try with_reducible rfl)
      try simp only [Act.put, List.setIfInBounds_toArray, List.set_cons_zero, List.set_cons_succ]
      refine wpAnyL_take (i := 1) (v := .agg #[.bool b_x1, .slice A_x1 n_x1 n_x1]) rfl (by kernel_rfl) (by kernel_rfl) (by kernel_rfl) (by kernel_rfl) (by kernel_rfl) (fun _ _ _ h => h) (Or.inl ⟨by rfl, by rintro w' ⟨h1, h2, h3, h4⟩; go_simp⟩) s6 ?_
      try simp only [Act.put, List.setIfInBounds_toArray, List.set_cons_zero, List.set_cons_succ]
      refine wpAnyL_take (i := 3) (v := ?_) rfl (by kernel_rfl) (by kernel_rfl) (by kernel_rfl) (by kernel_rfl) (by kernel_rfl) (fun _ _ _ h => h) (Or.inl ⟨by kernel_rfl, ?_⟩) s6 ?_
      rotate_left
      · rintro w' ⟨h1, h2, h3, h4⟩; go_simp; (try with_reducible rfl)
      try simp only [Act.put, List.setIfInBounds_toArray, List.set_cons_zero, List.set_cons_succ]
      refine wpAnyL_take (i := 4) (v := .agg #[.bool false, .slice A_y1 n_y1 n_y1]) rfl (by kernel_rfl) (by kernel_rfl) (by kernel_rfl) (by kernel_rfl) (by kernel_rfl) (fun _ _ _ h => h) (Or.inl ⟨by rfl, by rintro w' ⟨h1, h2, h3, h4⟩; go_simp⟩) s6 ?_
      try simp only [Act.put, List.setIfInBounds_toArray, List.set_cons_zero, List.set_cons_succ]
      refine wpAnyL_one (i := 2) (by kernel_rfl) rfl (fun K hK => ?_)
      go_simp
      refine (qexact _ (D6.b 0 rfl) (D6.z 2 rfl) (D6.z 0 rfl) HGP.out (by omega) (by omega)).mono ?_; rintro e w7 ⟨b_p, A_p, n_p, rfl, z_p, hb7⟩
      have R7 := ((D6.below hb7).add z_p)
      have s7 := And.intro (R7.cell 3 0 rfl rfl) (And.intro (R7.cell 3 1 rfl rfl) (And.intro (R7.cell 2 0 rfl rfl) (R7.cell 2 1 rfl rfl)))
      go_wp2_with fail
      refine hK.out _ _ (fun _ => s7) ?_
      clear hK K
      try simp only [Act.put, List.setIfInBounds_toArray, List.set_cons_zero, List.set_cons_succ]
      refine wpAnyL_one (i := 5) (by kernel_rfl) rfl (fun K hK => ?_)
      go_simp
      refine (qexact _ (R7.b 0 rfl) (R7.z 2 rfl) (R7.z 1 rfl) HGP.out (by omega) (by omega)).mono ?_; rintro e w8 ⟨b_q, A_q, n_q, rfl, z_q, hb8⟩
      have R8 := ((R7.below hb8).add z_q)
      have s8 := And.intro (R8.cell 3 0 rfl rfl) (And.intro (R8.cell 3 1 rfl rfl) (And.intro (R8.cell 2 0 rfl rfl) (R8.cell 2 1 rfl rfl)))
      go_wp2_with fail
      refine hK.out _ _ (fun _ => s8) ?_
      clear hK K
      try simp only [Act.put, List.setIfInBounds_toArray, List.set_cons_zero, List.set_cons_succ]
      refine wpAnyL_one (i := 6) (by kernel_rfl) rfl (fun K hK => ?_)
      go_simp
      refine hK.out _ _ (fun _ => s8) ?_
      clear hK K
      try simp only [Act.put, List.setIfInBounds_toArray, List.set_cons_zero, List.set_cons_succ]
      have fcr0 := R8.cell 1 0 rfl rfl
      have ffr0 := R8.frozen 1 0 rfl
      have fcr1 := R8.cell 1 1 rfl rfl
      have ffr1 := R8.frozen 1 1 rfl
      have fcr2 := R8.cell 1 2 rfl rfl
      have ffr2 := R8.frozen 1 2 rfl
      have fcr3 := R8.cell 1 3 rfl rfl
      have ffr3 := R8.frozen 1 3 rfl
      refine wpAnyL_one (i := 7) (by kernel_rfl) rfl (fun K hK => ?_)
      go_simp
      refine hK.out _ _ (fun h => absurd (by simp) h) ?_
      clear hK K
      try simp only [Act.put, List.setIfInBounds_toArray, List.set_cons_zero, List.set_cons_succ]
      refine wpAnyL_done (by kernel_rfl) ?_ _
      clear fcr0 ffr0 fcr1 ffr1 fcr2 ffr2 fcr3 ffr3
      have R9 := (R8.st4 1 (.bool b_p) (.slice A_p n_p n_p) (.bool b_q) (.slice A_q n_q n_q) rfl rfl rfl rfl rfl)
      generalize ((((w8.setCell ⟨w.heap.size + 1 + 1, 0, none⟩ (.bool b_p)).setCell ⟨w.heap.size + 1 + 1, 1, none⟩ (.slice A_p n_p n_p)).setCell ⟨w.heap.size + 1 + 1, 2, none⟩ (.bool b_q)).setCell ⟨w.heap.size + 1 + 1, 3, none⟩ (.slice A_q n_q n_q)) = w9 at *
      go_wp2_with fail
      refine bodyPost_ret (results_cell_row rfl _ _ (w.heap.size + 1 + 1) 26 #[.bool b_p, .slice A_p n_p n_p, .bool b_q, .slice A_q n_q n_q] (0, 0) _ rfl (R9.b 1 rfl).is Tryz.underlying26 rfl (by kernel_rfl)) rfl ?_
      have q1 := qnum_of (x := x) (y := y) HY0.out
      have q2 := qden_of (x := x) (y := y) HY0.out
      rw [HR2.out, HG.out] at q1 q2
      have q3 : zv (decide (y < 0)) ((y).natAbs / (gc : Int).natAbs) = ((r.den : Nat) : Int) := by rw [decide_eq_false (by have := HY0.out; omega), zv_false, q2, Int.natAbs_natCast]
      exact ⟨_, _, _, _, _, _, rfl, ((R9.z 1 rfl).as (by rw [q1, Int.natAbs_natCast])).mono (by omega), ((R9.z 0 rfl).as q3).mono (by omega), R9.bel⟩
end Go.Proofs.YticjhlbmdjijnaaGreatDoor
