/- The contracts of heijunkaref06.May, word, Need, write and Encode. No condition but the reach of a slice. -/
import Derived.Test.YtfoeapjlklfjgaaDoorCellD
import Derived.Deep.CutBlock
namespace Go.Proofs.YtfoeapjlklfjgaaDoor
set_option linter.unusedSimpArgs false
set_option linter.unusedVariables false
open Go.RowKit

set_option maxRecDepth 100000 in
set_option maxHeartbeats 3200000 in
theorem rmay_any (gs sq : Nat) (pt ps : Int) (A : Option Addr) (n c : Nat) (w : World) (hp : -9223372036854775808 ≤ ps ∧ ps ≤ 9223372036854775807) :
    Calls Tryd.prog 23 #[.agg #[.int .u32 (gs : Int), .int .u32 (sq : Int), .int .i64 pt, .int .i64 ps, .slice A n c]] w fun e w' => e = .returned (.bool (mayN pt ps n)) ∧ Below w.heap.size w w' := by
  have hb : Below w.heap.size w (w.alloc (.cells #[.int .u32 (gs : Int), .int .u32 (sq : Int), .int .i64 pt, .int .i64 ps, .slice A n c] 25)) := (Below.refl _ _).alloc (Nat.le_refl _) _
  have HB := Lib.hid hb
  clear hb
  by_cases h1 : 1 ≤ ps
  case neg =>
    have HN := Lib.hid (mayN_no (pt := pt) (ps := ps) (n := n) (fun h => h1 h.1))
    have d1 : decide (ps < 1) = true := decide_eq_true (by omega)
    clear h1
    go_enter Tryd.func23, Tryd.ntmps23
    go_wp2_with fail
    go_ret
    exact ⟨HN.out, HB.out⟩
  have d1 : decide (ps < 1) = false := decide_eq_false (by omega)
  by_cases h2 : ps ≤ 8
  case neg =>
    have HN := Lib.hid (mayN_no (pt := pt) (ps := ps) (n := n) (fun h => h2 h.2.1))
    have d2 : decide (8 < ps) = true := decide_eq_true (by omega)
    clear h1 h2
    go_enter Tryd.func23, Tryd.ntmps23
    go_wp2_with fail
    go_ret
    exact ⟨HN.out, HB.out⟩
  have d2 : decide (8 < ps) = false := decide_eq_false (by omega)
  by_cases h3 : 0 ≤ pt
  case neg =>
    have HN := Lib.hid (mayN_no (pt := pt) (ps := ps) (n := n) (fun h => h3 h.2.2.1))
    have d3 : decide (pt < 0) = true := decide_eq_true (by omega)
    clear h1 h2 h3
    go_enter Tryd.func23, Tryd.ntmps23
    go_wp2_with fail
    go_ret
    exact ⟨HN.out, HB.out⟩
  have d3 : decide (pt < 0) = false := decide_eq_false (by omega)
  by_cases h4 : pt < ps
  case neg =>
    have HN := Lib.hid (mayN_no (pt := pt) (ps := ps) (n := n) (fun h => h4 h.2.2.2.1))
    have d4 : decide (ps ≤ pt) = true := decide_eq_true (by omega)
    clear h1 h2 h3 h4
    go_enter Tryd.func23, Tryd.ntmps23
    go_wp2_with fail
    go_ret
    exact ⟨HN.out, HB.out⟩
  have d4 : decide (ps ≤ pt) = false := decide_eq_false (by omega)
  by_cases h5 : 1 ≤ n
  case neg =>
    have HN := Lib.hid (mayN_no (pt := pt) (ps := ps) (n := n) (fun h => h5 h.2.2.2.2.1))
    have d5 : decide ((n : Int) < 1) = true := decide_eq_true (by omega)
    clear h1 h2 h3 h4 h5
    go_enter Tryd.func23, Tryd.ntmps23
    go_wp2_with fail
    go_ret
    exact ⟨HN.out, HB.out⟩
  have d5 : decide ((n : Int) < 1) = false := decide_eq_false (by omega)
  by_cases h6 : n ≤ 49
  case neg =>
    have HN := Lib.hid (mayN_no (pt := pt) (ps := ps) (n := n) (fun h => h6 h.2.2.2.2.2.1))
    have d6 : decide (49 < (n : Int)) = true := decide_eq_true (by omega)
    clear h1 h2 h3 h4 h5 h6
    go_enter Tryd.func23, Tryd.ntmps23
    go_wp2_with fail
    go_ret
    exact ⟨HN.out, HB.out⟩
  have d6 : decide (49 < (n : Int)) = false := decide_eq_false (by omega)
  by_cases h8 : pt = ps - 1
  · have HN := Lib.hid (mayN_yes (pt := pt) (ps := ps) (n := n) ⟨h1, h2, h3, h4, h5, h6, .inr h8⟩)
    have d8 : (pt == ps - 1) = true := by simp [h8]
    clear h3 h4 h5 h6 h8
    go_enter Tryd.func23, Tryd.ntmps23
    go_wp2_with fail
    go_ret
    exact ⟨HN.out, HB.out⟩
  have d8 : (pt == ps - 1) = false := by simpa using h8
  by_cases h7 : n = 49
  · have HN := Lib.hid (mayN_yes (pt := pt) (ps := ps) (n := n) ⟨h1, h2, h3, h4, h5, h6, .inl h7⟩)
    have d7 : ((n : Int) == 49) = true := by simp [h7]
    clear h3 h4 h5 h6 h7 h8
    go_enter Tryd.func23, Tryd.ntmps23
    go_wp2_with fail
    go_ret
    exact ⟨HN.out, HB.out⟩
  · have HN := Lib.hid (mayN_no (pt := pt) (ps := ps) (n := n) (fun h => h.2.2.2.2.2.2.elim h7 h8))
    have d7 : ((n : Int) == 49) = false := by simp; omega
    clear h3 h4 h5 h6 h7 h8
    go_enter Tryd.func23, Tryd.ntmps23
    go_wp2_with fail
    go_ret
    exact ⟨HN.out, HB.out⟩
set_option maxRecDepth 100000 in
set_option maxHeartbeats 800000 in
theorem rword_any (v : Nat) (hv : v < 4294967296) (w : World) :
    Calls Tryd.prog 71 #[.int .u32 (v : Int)] w fun e w' => ∃ A, e = .returned (.slice A 4 4) ∧ OwnI w' w.heap.size .u8 256 5 A 4 4 (four v) ∧ Below w.heap.size w w' := by
  obtain ⟨x0, x1, x2, x3, hf, e0, e1, e2, e3⟩ := four_names v hv
  have ho : OwnI (w.alloc (.cells #[.int .u8 (x0 : Int), .int .u8 (x1 : Int), .int .u8 (x2 : Int), .int .u8 (x3 : Int)] 5)) w.heap.size .u8 256 5 (some ⟨w.heap.size, 0, none⟩) 4 4 (four v) :=
    OwnI.lit .u8 256 5 (four v) rfl rfl (by rw [hf]; rfl) (four_lt v) (by omega) (Nat.le_refl _)
  have l0 : x0 < 256 := four_lt v x0 (by rw [hf]; simp)
  have l1 : x1 < 256 := four_lt v x1 (by rw [hf]; simp)
  have l2 : x2 < 256 := four_lt v x2 (by rw [hf]; simp)
  have l3 : x3 < 256 := four_lt v x3 (by rw [hf]; simp)
  have m0 : (x0 : Int) % 256 = (x0 : Int) := by omega
  have m1 : (x1 : Int) % 256 = (x1 : Int) := by omega
  have m2 : (x2 : Int) % 256 = (x2 : Int) := by omega
  have m3 : (x3 : Int) % 256 = (x3 : Int) := by omega
  have HO := Lib.hid ho
  clear ho hf
  have h0 : (0 : Int) ≤ (v : Int) := by omega
  have h1 : (v : Int) < 4294967296 := by omega
  generalize (v : Int) = V at *
  go_enter Tryd.func71, Tryd.ntmps71
  go_wp2_with fail
  go_ret
  exact ⟨_, rfl, HO.out, (Below.refl _ _).alloc (Nat.le_refl _) _⟩
theorem own_dis {w w' : World} {base : Nat} {kd : IntKind} {lim : Nat} {e : TypeId} {A : Option Addr} {n c : Nat} {l : List Nat} {A' : Option Addr} {n' c' : Nat} {l' : List Nat} (h : OwnI w base kd lim e A n c l) (h' : OwnI w' w.heap.size kd lim e A' n' c' l') : Dis A A' :=
  ⟨fun x y hx hy e => by have := (h.lt_ x hx).2; have := (h'.lt_ y hy).1; omega⟩
theorem own_apart {w : World} {kd : IntKind} {lim : Nat} {e : TypeId} {A : Option Addr} {n c : Nat} {l : List Nat} {g b : Nat} (h : OwnI w b kd lim e A n c l) (hg : g + 1 ≤ b) : some g ≠ A.map (·.block) := fun e => by
  cases A with
  | none => cases e
  | some ad => have := (h.lt_ ad rfl).1; injection e with e; have e : g = ad.block := e; omega
theorem need_loop {n k : Nat} (h1 : 1 ≤ n) (h2 : n ≤ 392) (hk : 1 ≤ k) (hk2 : 49 * (k - 1) < n) (h : n ≤ 49 * k) : k = Cl.need n := by
  rw [(Cl.need_pos h1 h2).1]; omega
set_option maxRecDepth 100000 in
set_option maxHeartbeats 800000 in
theorem rneed_any (n : Int) (w : World) (h1 : -9223372036854775808 ≤ n) (h2 : n ≤ 9223372036854775807) :
    Calls Tryd.prog 30 #[.int .i64 n] w fun e w' => e = .returned (.int .i64 (Cl.need n.toNat : Nat)) ∧ w = w' := by
  by_cases h3 : n < 1
  · have HZ := Lib.hid (Cl.need_zero (n := n.toNat) (by omega))
    go_enter Tryd.func30, Tryd.ntmps30
    go_wp2_with fail
    go_ret
    exact ⟨by rw [HZ.out]; rfl, rfl⟩
  by_cases h4 : 392 < n
  · have HZ := Lib.hid (Cl.need_zero (n := n.toNat) (by omega))
    go_enter Tryd.func30, Tryd.ntmps30
    go_wp2_with fail
    go_ret
    exact ⟨by rw [HZ.out]; rfl, rfl⟩
  · obtain ⟨m, rfl⟩ : ∃ m : Nat, n = (m : Int) := ⟨n.toNat, by omega⟩
    have k1 : 1 ≤ m := by omega
    have k2 : m ≤ 392 := by omega
    go_enter Tryd.func30, Tryd.ntmps30
    go_wp2_with fail
    go_loop [3] (fun v => ∃ k : Nat, 1 ≤ k ∧ 49 * (k - 1) < m ∧ v = .int .i64 k) (fun v => 400 - (intOf v).toNat)
    case atStart => exact ⟨1, by omega, by omega, rfl⟩
    case round =>
      obtain ⟨k, hk1, hk2, rfl⟩ := hrel
      by_cases hlt : 49 * k < m
      · have hl : 49 * (k : Int) < (m : Int) := by omega
        have hk0 : (k : Int) ≤ 8 := by omega
        have hk00 : (0 : Int) ≤ (k : Int) := by omega
        go_wp2_with fail
        go_round
        case rel => exact ⟨k + 1, by omega, by omega, by go_num⟩
        case measure => simp [intOf]; omega
      · have hl : ¬ 49 * (k : Int) < (m : Int) := by omega
        have hk0 : (k : Int) ≤ 9 := by omega
        have hk00 : (0 : Int) ≤ (k : Int) := by omega
        have HK := Lib.hid (need_loop k1 k2 hk1 hk2 (by omega))
        go_wp2_with fail
        go_ret
        exact ⟨ret_int (by rw [← HK.out]), rfl⟩
set_option maxRecDepth 100000 in
set_option maxHeartbeats 12800000 in
theorem rwrite_any (gs sq : Nat) (hgs : gs < 4294967296) (hsq : sq < 4294967296) (p q : Nat) (A : Option Addr) (n c : Nat) (l : List Nat) (w : World) (hr : Ints w .u8 256 A n c l) (hm : mayN (p : Int) (q : Int) n = true) :
    Calls Tryd.prog 51 #[.agg #[.int .u32 (gs : Int), .int .u32 (sq : Int), .int .i64 (p : Int), .int .i64 (q : Int), .slice A n c]] w fun e w' => ∃ A' c', e = .returned (.slice A' 64 c') ∧ OwnI w' w.heap.size .u8 256 5 A' 64 c' (Cl.enc ⟨gs, sq, p, q, l⟩) ∧ Below w.heap.size w w' := by
  obtain ⟨h1, h2, h3, h4, h5, h6, _⟩ := mayN_iff.1 hm
  have hq8 : q ≤ 8 := by omega
  have hp8 : p < 8 := by omega
  have hln := hr.len
  have hbody : Cl.body ⟨gs, sq, p, q, l⟩ = (((four gs ++ four sq) ++ [p, q, n]) ++ l) ++ List.replicate (49 - n) 0 := by
    unfold Cl.body
    dsimp only
    rw [Int.toNat_natCast, Int.toNat_natCast, hln]
    simp only [List.append_assoc]
  have hb : Below w.heap.size w (w.alloc (.cells #[.int .u32 (gs : Int), .int .u32 (sq : Int), .int .i64 (p : Int), .int .i64 (q : Int), .slice A n c] 25)) := (Below.refl _ _).alloc (Nat.le_refl _) _
  have hB := Blk.new w 25 #[.int .u32 (gs : Int), .int .u32 (sq : Int), .int .i64 (p : Int), .int .i64 (q : Int), .slice A n c]
  have HY := Lib.hid hbody
  have HR := Lib.hid hr
  have hc0 := hr.rd.cap
  have ep : (p : Int) % 256 = (p : Int) := by omega
  have eq_ : (q : Int) % 256 = (q : Int) := by omega
  have en : (n : Int) % 256 = (n : Int) := by omega
  have wp8 : IntKind.u8.wrap (p : Int) = (p : Int) := by rw [IntKind.wrap_u8]; omega
  have wq8 : IntKind.u8.wrap (q : Int) = (q : Int) := by rw [IntKind.wrap_u8]; omega
  have wn8 : IntKind.u8.wrap (n : Int) = (n : Int) := by rw [IntKind.wrap_u8]; omega
  have hlit : ∀ x ∈ [p, q, n], x < 256 := by intro x hx; simp only [List.mem_cons, List.not_mem_nil, or_false] at hx; rcases hx with rfl | rfl | rfl <;> omega
  have HLit := Lib.hid hlit
  have HBB := Lib.hid (And.intro hb hB)
  clear hbody hr h1 h2 h3 h4 hln hlit hb hB
  go_enter Tryd.func51, Tryd.ntmps51
  go_wp2_with fail
  go_upto_block 0 with (fail)
  go_cut [3] (fun v wx => ∃ A5 c5, v = .slice A5 (4 + 4 + 3 + n) c5 ∧ OwnI wx w.heap.size .u8 256 5 A5 (4 + 4 + 3 + n) c5 (((four gs ++ four sq) ++ [p, q, n]) ++ l) ∧ Below w.heap.size w wx)
  case first =>
    refine wp_region_late [] (fun w' => w'.cell? ⟨w.heap.size, 0, none⟩ = some (.int .u32 (gs : Int)) ∧ w'.cell? ⟨w.heap.size, 1, none⟩ = some (.int .u32 (sq : Int)) ∧ w'.cell? ⟨w.heap.size, 2, none⟩ = some (.int .i64 (p : Int)) ∧ w'.cell? ⟨w.heap.size, 3, none⟩ = some (.int .i64 (q : Int)) ∧ w'.cell? ⟨w.heap.size, 4, none⟩ = some (.slice A n c)) (by kernel_rfl) ?_
    have hb := HBB.out.1.drew
    have hB := HBB.out.2.drew
    generalize World.drew _ = w2 at *
    have k0 := hB.cell 0
    have k1 := hB.cell 1
    have k2 := hB.cell 2
    have k3 := hB.cell 3
    have k4 := hB.cell 4
    simp only [List.getElem?_toArray, List.getElem?_cons_zero, List.getElem?_cons_succ] at k0 k1 k2 k3 k4
    refine wpAnyL_take (i := 0) (v := ?_) rfl (by kernel_rfl) (by kernel_rfl) (by kernel_rfl) (by kernel_rfl) (by kernel_rfl) (fun _ _ _ h => h) (Or.inl ⟨by kernel_rfl, ?_⟩) ⟨k0, k1, k2, k3, k4⟩ ?_
    rotate_left
    · rintro w0 ⟨h1_, h2_, h3_, h4_, h5_⟩; go_simp; (try with_reducible rfl)
    try simp only [Act.put, List.getElem_toArray, List.getElem_cons_succ, List.getElem_cons_zero, List.setIfInBounds_toArray, List.set_cons_zero, List.set_cons_succ]
    refine wpAnyL_take (i := 1) (v := ?_) rfl (by kernel_rfl) (by kernel_rfl) (by kernel_rfl) (by kernel_rfl) (by kernel_rfl) (fun _ _ _ h => h) (Or.inl ⟨by kernel_rfl, ?_⟩) ⟨k0, k1, k2, k3, k4⟩ ?_
    rotate_left
    · rintro w0 ⟨h1_, h2_, h3_, h4_, h5_⟩; go_simp; (try with_reducible rfl)
    try simp only [Act.put, List.getElem_toArray, List.getElem_cons_succ, List.getElem_cons_zero, List.setIfInBounds_toArray, List.set_cons_zero, List.set_cons_succ]
    refine wpAnyL_take (i := 3) (v := ?_) rfl (by kernel_rfl) (by kernel_rfl) (by kernel_rfl) (by kernel_rfl) (by kernel_rfl) (fun _ _ _ h => h) (Or.inl ⟨by kernel_rfl, ?_⟩) ⟨k0, k1, k2, k3, k4⟩ ?_
    rotate_left
    · rintro w0 ⟨h1_, h2_, h3_, h4_, h5_⟩; go_simp; (try with_reducible rfl)
    try simp only [Act.put, List.getElem_toArray, List.getElem_cons_succ, List.getElem_cons_zero, List.setIfInBounds_toArray, List.set_cons_zero, List.set_cons_succ]
    refine wpAnyL_take (i := 4) (v := ?_) rfl (by kernel_rfl) (by kernel_rfl) (by kernel_rfl) (by kernel_rfl) (by kernel_rfl) (fun _ _ _ h => h) (Or.inl ⟨by kernel_rfl, ?_⟩) ⟨k0, k1, k2, k3, k4⟩ ?_
    rotate_left
    · rintro w0 ⟨h1_, h2_, h3_, h4_, h5_⟩; go_simp; (try with_reducible rfl)
    try simp only [Act.put, List.getElem_toArray, List.getElem_cons_succ, List.getElem_cons_zero, List.setIfInBounds_toArray, List.set_cons_zero, List.set_cons_succ]
    refine wpAnyL_take (i := 7) (v := ?_) rfl (by kernel_rfl) (by kernel_rfl) (by kernel_rfl) (by kernel_rfl) (by kernel_rfl) (fun _ _ _ h => h) (Or.inl ⟨by kernel_rfl, ?_⟩) ⟨k0, k1, k2, k3, k4⟩ ?_
    rotate_left
    · rintro w0 ⟨h1_, h2_, h3_, h4_, h5_⟩; go_simp; (try with_reducible rfl)
    try simp only [Act.put, List.getElem_toArray, List.getElem_cons_succ, List.getElem_cons_zero, List.setIfInBounds_toArray, List.set_cons_zero, List.set_cons_succ]
    refine wpAnyL_take (i := 8) (v := ?_) rfl (by kernel_rfl) (by kernel_rfl) (by kernel_rfl) (by kernel_rfl) (by kernel_rfl) (fun _ _ _ h => h) (Or.inl ⟨by kernel_rfl, ?_⟩) ⟨k0, k1, k2, k3, k4⟩ ?_
    rotate_left
    · rintro w0 ⟨h1_, h2_, h3_, h4_, h5_⟩; go_simp; (try with_reducible rfl)
    try simp only [Act.put, List.getElem_toArray, List.getElem_cons_succ, List.getElem_cons_zero, List.setIfInBounds_toArray, List.set_cons_zero, List.set_cons_succ]
    refine wpAnyL_take (i := 9) (v := ?_) rfl (by kernel_rfl) (by kernel_rfl) (by kernel_rfl) (by kernel_rfl) (by kernel_rfl) (fun _ _ _ h => h) (Or.inl ⟨by kernel_rfl, ?_⟩) ⟨k0, k1, k2, k3, k4⟩ ?_
    rotate_left
    · rintro w0 ⟨h1_, h2_, h3_, h4_, h5_⟩; go_simp; (try with_reducible rfl)
    try simp only [Act.put, List.getElem_toArray, List.getElem_cons_succ, List.getElem_cons_zero, List.setIfInBounds_toArray, List.set_cons_zero, List.set_cons_succ]
    refine wpAnyL_take (i := 10) (v := ?_) rfl (by kernel_rfl) (by kernel_rfl) (by kernel_rfl) (by kernel_rfl) (by kernel_rfl) (fun _ _ _ h => h) (Or.inl ⟨by kernel_rfl, ?_⟩) ⟨k0, k1, k2, k3, k4⟩ ?_
    rotate_left
    · rintro w0 ⟨h1_, h2_, h3_, h4_, h5_⟩; go_simp; (try with_reducible rfl)
    try simp only [Act.put, List.getElem_toArray, List.getElem_cons_succ, List.getElem_cons_zero, List.setIfInBounds_toArray, List.set_cons_zero, List.set_cons_succ]
    refine wpAnyL_take (i := 11) (v := ?_) rfl (by kernel_rfl) (by kernel_rfl) (by kernel_rfl) (by kernel_rfl) (by kernel_rfl) (fun _ _ _ h => h) (Or.inl ⟨by kernel_rfl, ?_⟩) ⟨k0, k1, k2, k3, k4⟩ ?_
    rotate_left
    · rintro w0 ⟨h1_, h2_, h3_, h4_, h5_⟩; go_simp; (try with_reducible rfl)
    try simp only [Act.put, List.getElem_toArray, List.getElem_cons_succ, List.getElem_cons_zero, List.setIfInBounds_toArray, List.set_cons_zero, List.set_cons_succ]
    refine wpAnyL_take (i := 12) (v := ?_) rfl (by kernel_rfl) (by kernel_rfl) (by kernel_rfl) (by kernel_rfl) (by kernel_rfl) (fun _ _ _ h => h) (Or.inl ⟨by kernel_rfl, ?_⟩) ⟨k0, k1, k2, k3, k4⟩ ?_
    rotate_left
    · rintro w0 ⟨h1_, h2_, h3_, h4_, h5_⟩; go_simp; (try with_reducible rfl)
    try simp only [Act.put, List.getElem_toArray, List.getElem_cons_succ, List.getElem_cons_zero, List.setIfInBounds_toArray, List.set_cons_zero, List.set_cons_succ]
    refine wpAnyL_take (i := 13) (v := ?_) rfl (by kernel_rfl) (by kernel_rfl) (by kernel_rfl) (by kernel_rfl) (by kernel_rfl) (fun _ _ _ h => h) (Or.inl ⟨by kernel_rfl, ?_⟩) ⟨k0, k1, k2, k3, k4⟩ ?_
    rotate_left
    · rintro w0 ⟨h1_, h2_, h3_, h4_, h5_⟩; go_simp; (try with_reducible rfl)
    try simp only [Act.put, List.getElem_toArray, List.getElem_cons_succ, List.getElem_cons_zero, List.setIfInBounds_toArray, List.set_cons_zero, List.set_cons_succ]
    refine wpAnyL_take (i := 14) (v := ?_) rfl (by kernel_rfl) (by kernel_rfl) (by kernel_rfl) (by kernel_rfl) (by kernel_rfl) (fun _ _ _ h => h) (Or.inl ⟨by kernel_rfl, ?_⟩) ⟨k0, k1, k2, k3, k4⟩ ?_
    rotate_left
    · rintro w0 ⟨h1_, h2_, h3_, h4_, h5_⟩; go_simp; (try with_reducible rfl)
    try simp only [Act.put, List.getElem_toArray, List.getElem_cons_succ, List.getElem_cons_zero, List.setIfInBounds_toArray, List.set_cons_zero, List.set_cons_succ]
    refine wpAnyL_take (i := 15) (v := ?_) rfl (by kernel_rfl) (by kernel_rfl) (by kernel_rfl) (by kernel_rfl) (by kernel_rfl) (fun _ _ _ h => h) (Or.inl ⟨by kernel_rfl, ?_⟩) ⟨k0, k1, k2, k3, k4⟩ ?_
    rotate_left
    · rintro w0 ⟨h1_, h2_, h3_, h4_, h5_⟩; go_simp; (try with_reducible rfl)
    try simp only [Act.put, List.getElem_toArray, List.getElem_cons_succ, List.getElem_cons_zero, List.setIfInBounds_toArray, List.set_cons_zero, List.set_cons_succ]
    refine wpAnyL_take (i := 16) (v := ?_) rfl (by kernel_rfl) (by kernel_rfl) (by kernel_rfl) (by kernel_rfl) (by kernel_rfl) (fun _ _ _ h => h) (Or.inl ⟨by kernel_rfl, ?_⟩) ⟨k0, k1, k2, k3, k4⟩ ?_
    rotate_left
    · rintro w0 ⟨h1_, h2_, h3_, h4_, h5_⟩; go_simp; (try with_reducible rfl)
    try simp only [Act.put, List.getElem_toArray, List.getElem_cons_succ, List.getElem_cons_zero, List.setIfInBounds_toArray, List.set_cons_zero, List.set_cons_succ]
    refine wpAnyL_take (i := 19) (v := ?_) rfl (by kernel_rfl) (by kernel_rfl) (by kernel_rfl) (by kernel_rfl) (by kernel_rfl) (fun _ _ _ h => h) (Or.inl ⟨by kernel_rfl, ?_⟩) ⟨k0, k1, k2, k3, k4⟩ ?_
    rotate_left
    · rintro w0 ⟨h1_, h2_, h3_, h4_, h5_⟩; go_simp; (try with_reducible rfl)
    try simp only [Act.put, List.getElem_toArray, List.getElem_cons_succ, List.getElem_cons_zero, List.setIfInBounds_toArray, List.set_cons_zero, List.set_cons_succ]
    refine wpAnyL_take (i := 20) (v := ?_) rfl (by kernel_rfl) (by kernel_rfl) (by kernel_rfl) (by kernel_rfl) (by kernel_rfl) (fun _ _ _ h => h) (Or.inl ⟨by kernel_rfl, ?_⟩) ⟨k0, k1, k2, k3, k4⟩ ?_
    rotate_left
    · rintro w0 ⟨h1_, h2_, h3_, h4_, h5_⟩; go_simp; (try with_reducible rfl)
    try simp only [Act.put, List.getElem_toArray, List.getElem_cons_succ, List.getElem_cons_zero, List.setIfInBounds_toArray, List.set_cons_zero, List.set_cons_succ]
    refine wpAnyL_all (rs := [2, 17]) (by kernel_rfl) (by simp) (StepsL.cons (i := 2) rfl (fun K hK => ?_) (StepsL.cons (i := 17) rfl (fun K hK => ?_) StepsL.nil))
    · go_simp
      refine (rword_any gs hgs _).mono ?_; rintro e w3 ⟨A3, rfl, ho3, hb3⟩
      have hbaA : w.heap.size + 1 ≤ w2.heap.size := hB.lt
      have hloA : w.heap.size < w3.heap.size := by have := hB.lt; have := hb3.size; omega
      have hb := below_step hb hb3 hb.size
      have hB := hB.below hb3 hB.lt
      clear k0 k1 k2 k3 k4
      have k0 := hB.cell 0
      have k1 := hB.cell 1
      have k2 := hB.cell 2
      have k3 := hB.cell 3
      have k4 := hB.cell 4
      simp only [List.getElem?_toArray, List.getElem?_cons_zero, List.getElem?_cons_succ] at k0 k1 k2 k3 k4
      clear hb3
      go_wp2_with fail
      refine hK.out _ _ (fun _ => ⟨k0, k1, k2, k3, k4⟩) ?_
      clear hK K
      try simp only [Act.put, List.getElem_toArray, List.getElem_cons_succ, List.getElem_cons_zero, List.setIfInBounds_toArray, List.set_cons_zero, List.set_cons_succ]
      refine wpAnyL_all (rs := [5, 17]) (by kernel_rfl) (by simp) (StepsL.cons (i := 5) rfl (fun K hK => ?_) (StepsL.cons (i := 17) rfl (fun K hK => ?_) StepsL.nil))
      · go_simp
        refine (rword_any sq hsq _).mono ?_; rintro e w5 ⟨A5, rfl, ho5, hb5⟩
        have hbaB : w.heap.size + 1 ≤ w3.heap.size := hB.lt
        have disAB := own_dis ho3 ho5
        have ho3 := ho3.below hb5
        have hloB : w.heap.size < w5.heap.size := by have := hB.lt; have := hb5.size; omega
        have hb := below_step hb hb5 hb.size
        have hB := hB.below hb5 hB.lt
        clear k0 k1 k2 k3 k4
        have k0 := hB.cell 0
        have k1 := hB.cell 1
        have k2 := hB.cell 2
        have k3 := hB.cell 3
        have k4 := hB.cell 4
        simp only [List.getElem?_toArray, List.getElem?_cons_zero, List.getElem?_cons_succ] at k0 k1 k2 k3 k4
        clear hb5
        go_wp2_with fail
        refine hK.out _ _ (fun _ => ⟨k0, k1, k2, k3, k4⟩) ?_
        clear hK K
        try simp only [Act.put, List.getElem_toArray, List.getElem_cons_succ, List.getElem_cons_zero, List.setIfInBounds_toArray, List.set_cons_zero, List.set_cons_succ]
        refine wpAnyL_all (rs := [6, 17]) (by kernel_rfl) (by simp) (StepsL.cons (i := 6) rfl (fun K hK => ?_) (StepsL.cons (i := 17) rfl (fun K hK => ?_) StepsL.nil))
        · refine step_appI _ rfl (.tmp 6) (.tmp 9) 23 rfl 5 1 Tryd.underlying23 cinfo (by omega) (ho3.mono (b' := w.heap.size + 1) hbaA) rfl ho5.ints rfl (by omega) (by have := hB.lt; omega) ?_
          intro A7 c7 w7 ho7 hg7 ha7
          have hb := below_own hb hg7 hb.size (fun ad e => by have := (ho3.lt_ ad e).1; have := hbaA; omega)
          have hB := hB.grown hg7 (own_apart ho3 hbaA)
          clear k0 k1 k2 k3 k4
          have k0 := hB.cell 0
          have k1 := hB.cell 1
          have k2 := hB.cell 2
          have k3 := hB.cell 3
          have k4 := hB.cell 4
          simp only [List.getElem?_toArray, List.getElem?_cons_zero, List.getElem?_cons_succ] at k0 k1 k2 k3 k4
          refine hK.out _ _ (fun _ => ⟨k0, k1, k2, k3, k4⟩) ?_
          clear hK K
          try simp only [Act.put, List.getElem_toArray, List.getElem_cons_succ, List.getElem_cons_zero, List.setIfInBounds_toArray, List.set_cons_zero, List.set_cons_succ]
          refine wpAnyL_one (i := 17) (by kernel_rfl) rfl (fun K hK => ?_)
          go_simp
          have ho9 := OwnI.lit (w := w7) (base := w7.heap.size) .u8 256 5 (n := 3) (cs := #[.int .u8 (p : Int), .int .u8 (q : Int), .int .u8 (n : Int)]) [p, q, n] (g := w7.heap.size) rfl rfl rfl HLit.out (by omega) (Nat.le_refl _)
          have disCD := own_dis ho7 ho9
          have ho7 := ho7.alloc (.cells #[.int .u8 (p : Int), .int .u8 (q : Int), .int .u8 (n : Int)] 5)
          have hb := hb.alloc hb.size (.cells #[.int .u8 (p : Int), .int .u8 (q : Int), .int .u8 (n : Int)] 5)
          have hB := hB.alloc (.cells #[.int .u8 (p : Int), .int .u8 (q : Int), .int .u8 (n : Int)] 5)
          clear k0 k1 k2 k3 k4
          have k0 := hB.cell 0
          have k1 := hB.cell 1
          have k2 := hB.cell 2
          have k3 := hB.cell 3
          have k4 := hB.cell 4
          simp only [List.getElem?_toArray, List.getElem?_cons_zero, List.getElem?_cons_succ] at k0 k1 k2 k3 k4
          refine hK.out _ _ (fun _ => ⟨k0, k1, k2, k3, k4⟩) ?_
          clear hK K
          try simp only [Act.put, List.getElem_toArray, List.getElem_cons_succ, List.getElem_cons_zero, List.setIfInBounds_toArray, List.set_cons_zero, List.set_cons_succ]
          generalize w7.alloc _ = w9 at *
          refine wpAnyL_one (i := 18) (by kernel_rfl) rfl (fun K hK => ?_)
          refine step_appI _ rfl (.tmp 10) (.tmp 21) 23 rfl 5 1 Tryd.underlying23 cinfo (by omega) ho7 rfl ho9.ints rfl (by omega) (by have := hB.lt; omega) ?_
          intro A10 c10 w10 ho10 hg10 ha10
          have hb := below_own hb hg10 hb.size (fun ad e => by have := (ho7.lt_ ad e).1; omega)
          have hB := hB.grown hg10 (own_apart ho7 (Nat.le_refl _))
          clear k0 k1 k2 k3 k4
          have k0 := hB.cell 0
          have k1 := hB.cell 1
          have k2 := hB.cell 2
          have k3 := hB.cell 3
          have k4 := hB.cell 4
          simp only [List.getElem?_toArray, List.getElem?_cons_zero, List.getElem?_cons_succ] at k0 k1 k2 k3 k4
          refine hK.out _ _ (fun _ => ⟨k0, k1, k2, k3, k4⟩) ?_
          clear hK K
          try simp only [Act.put, List.getElem_toArray, List.getElem_cons_succ, List.getElem_cons_zero, List.setIfInBounds_toArray, List.set_cons_zero, List.set_cons_succ]
          refine wpAnyL_one (i := 21) (by kernel_rfl) rfl (fun K hK => ?_)
          refine step_appI _ rfl (.tmp 22) (.tmp 24) 23 rfl 5 1 Tryd.underlying23 cinfo (by omega) ho10 rfl (HR.out.below hb) rfl (by omega) (by have := hB.lt; omega) ?_
          intro A11 c11 w11 ho11 hg11 ha11
          have hb := below_own hb hg11 hb.size (fun ad e => by have := (ho10.lt_ ad e).1; omega)
          have hB := hB.grown hg11 (own_apart ho10 (Nat.le_refl _))
          clear k0 k1 k2 k3 k4
          have k0 := hB.cell 0
          have k1 := hB.cell 1
          have k2 := hB.cell 2
          have k3 := hB.cell 3
          have k4 := hB.cell 4
          simp only [List.getElem?_toArray, List.getElem?_cons_zero, List.getElem?_cons_succ] at k0 k1 k2 k3 k4
          refine hK.out _ _ (fun _ => ⟨k0, k1, k2, k3, k4⟩) ?_
          clear hK K
          try simp only [Act.put, List.getElem_toArray, List.getElem_cons_succ, List.getElem_cons_zero, List.setIfInBounds_toArray, List.set_cons_zero, List.set_cons_succ]
          refine wpAnyL_take (i := 22) (v := ?_) rfl (by kernel_rfl) (by kernel_rfl) (by kernel_rfl) (by kernel_rfl) (by kernel_rfl) (fun _ _ _ h => h) (Or.inl ⟨by kernel_rfl, ?_⟩) ⟨k0, k1, k2, k3, k4⟩ ?_
          rotate_left
          · rintro w0 ⟨h1_, h2_, h3_, h4_, h5_⟩; go_simp; (try with_reducible rfl)
          try simp only [Act.put, List.getElem_toArray, List.getElem_cons_succ, List.getElem_cons_zero, List.setIfInBounds_toArray, List.set_cons_zero, List.set_cons_succ]
          refine wpAnyL_done (by kernel_rfl) ?_ _
          go_wp2_with fail
          go_meet
          exact ⟨A11, c11, rfl, ho11.mono (by omega), hb⟩
        · go_simp
          have ho8 := OwnI.lit (w := w5) (base := w5.heap.size) .u8 256 5 (n := 3) (cs := #[.int .u8 (p : Int), .int .u8 (q : Int), .int .u8 (n : Int)]) [p, q, n] (g := w5.heap.size) rfl rfl rfl HLit.out (by omega) (Nat.le_refl _)
          have disAD := own_dis ho3 ho8
          have disBD := own_dis ho5 ho8
          have ho3 := ho3.alloc (.cells #[.int .u8 (p : Int), .int .u8 (q : Int), .int .u8 (n : Int)] 5)
          have ho5 := ho5.alloc (.cells #[.int .u8 (p : Int), .int .u8 (q : Int), .int .u8 (n : Int)] 5)
          have hb := hb.alloc hb.size (.cells #[.int .u8 (p : Int), .int .u8 (q : Int), .int .u8 (n : Int)] 5)
          have hB := hB.alloc (.cells #[.int .u8 (p : Int), .int .u8 (q : Int), .int .u8 (n : Int)] 5)
          clear k0 k1 k2 k3 k4
          have k0 := hB.cell 0
          have k1 := hB.cell 1
          have k2 := hB.cell 2
          have k3 := hB.cell 3
          have k4 := hB.cell 4
          simp only [List.getElem?_toArray, List.getElem?_cons_zero, List.getElem?_cons_succ] at k0 k1 k2 k3 k4
          refine hK.out _ _ (fun _ => ⟨k0, k1, k2, k3, k4⟩) ?_
          clear hK K
          try simp only [Act.put, List.getElem_toArray, List.getElem_cons_succ, List.getElem_cons_zero, List.setIfInBounds_toArray, List.set_cons_zero, List.set_cons_succ]
          generalize w5.alloc _ = w8 at *
          refine wpAnyL_one (i := 6) (by kernel_rfl) rfl (fun K hK => ?_)
          refine step_appI _ rfl (.tmp 6) (.tmp 9) 23 rfl 5 1 Tryd.underlying23 cinfo (by omega) (ho3.mono (b' := w.heap.size + 1) hbaA) rfl ho5.ints rfl (by omega) (by have := hB.lt; omega) ?_
          intro A12 c12 w12 ho12 hg12 ha12
          have hb := below_own hb hg12 hb.size (fun ad e => by have := (ho3.lt_ ad e).1; have := hbaA; omega)
          have hB := hB.grown hg12 (own_apart ho3 hbaA)
          have ho8 := ho8.beside hg12 disAD
          clear k0 k1 k2 k3 k4
          have k0 := hB.cell 0
          have k1 := hB.cell 1
          have k2 := hB.cell 2
          have k3 := hB.cell 3
          have k4 := hB.cell 4
          simp only [List.getElem?_toArray, List.getElem?_cons_zero, List.getElem?_cons_succ] at k0 k1 k2 k3 k4
          refine hK.out _ _ (fun _ => ⟨k0, k1, k2, k3, k4⟩) ?_
          clear hK K
          try simp only [Act.put, List.getElem_toArray, List.getElem_cons_succ, List.getElem_cons_zero, List.setIfInBounds_toArray, List.set_cons_zero, List.set_cons_succ]
          refine wpAnyL_one (i := 18) (by kernel_rfl) rfl (fun K hK => ?_)
          refine step_appI _ rfl (.tmp 10) (.tmp 21) 23 rfl 5 1 Tryd.underlying23 cinfo (by omega) ho12 rfl ho8.ints rfl (by omega) (by have := hB.lt; omega) ?_
          intro A13 c13 w13 ho13 hg13 ha13
          have hb := below_own hb hg13 hb.size (fun ad e => by have := (ho12.lt_ ad e).1; omega)
          have hB := hB.grown hg13 (own_apart ho12 (Nat.le_refl _))
          clear k0 k1 k2 k3 k4
          have k0 := hB.cell 0
          have k1 := hB.cell 1
          have k2 := hB.cell 2
          have k3 := hB.cell 3
          have k4 := hB.cell 4
          simp only [List.getElem?_toArray, List.getElem?_cons_zero, List.getElem?_cons_succ] at k0 k1 k2 k3 k4
          refine hK.out _ _ (fun _ => ⟨k0, k1, k2, k3, k4⟩) ?_
          clear hK K
          try simp only [Act.put, List.getElem_toArray, List.getElem_cons_succ, List.getElem_cons_zero, List.setIfInBounds_toArray, List.set_cons_zero, List.set_cons_succ]
          refine wpAnyL_one (i := 21) (by kernel_rfl) rfl (fun K hK => ?_)
          refine step_appI _ rfl (.tmp 22) (.tmp 24) 23 rfl 5 1 Tryd.underlying23 cinfo (by omega) ho13 rfl (HR.out.below hb) rfl (by omega) (by have := hB.lt; omega) ?_
          intro A14 c14 w14 ho14 hg14 ha14
          have hb := below_own hb hg14 hb.size (fun ad e => by have := (ho13.lt_ ad e).1; omega)
          have hB := hB.grown hg14 (own_apart ho13 (Nat.le_refl _))
          clear k0 k1 k2 k3 k4
          have k0 := hB.cell 0
          have k1 := hB.cell 1
          have k2 := hB.cell 2
          have k3 := hB.cell 3
          have k4 := hB.cell 4
          simp only [List.getElem?_toArray, List.getElem?_cons_zero, List.getElem?_cons_succ] at k0 k1 k2 k3 k4
          refine hK.out _ _ (fun _ => ⟨k0, k1, k2, k3, k4⟩) ?_
          clear hK K
          try simp only [Act.put, List.getElem_toArray, List.getElem_cons_succ, List.getElem_cons_zero, List.setIfInBounds_toArray, List.set_cons_zero, List.set_cons_succ]
          refine wpAnyL_take (i := 22) (v := ?_) rfl (by kernel_rfl) (by kernel_rfl) (by kernel_rfl) (by kernel_rfl) (by kernel_rfl) (fun _ _ _ h => h) (Or.inl ⟨by kernel_rfl, ?_⟩) ⟨k0, k1, k2, k3, k4⟩ ?_
          rotate_left
          · rintro w0 ⟨h1_, h2_, h3_, h4_, h5_⟩; go_simp; (try with_reducible rfl)
          try simp only [Act.put, List.getElem_toArray, List.getElem_cons_succ, List.getElem_cons_zero, List.setIfInBounds_toArray, List.set_cons_zero, List.set_cons_succ]
          refine wpAnyL_done (by kernel_rfl) ?_ _
          go_wp2_with fail
          go_meet
          exact ⟨A14, c14, rfl, ho14.mono (by omega), hb⟩
      · go_simp
        have ho6 := OwnI.lit (w := w3) (base := w3.heap.size) .u8 256 5 (n := 3) (cs := #[.int .u8 (p : Int), .int .u8 (q : Int), .int .u8 (n : Int)]) [p, q, n] (g := w3.heap.size) rfl rfl rfl HLit.out (by omega) (Nat.le_refl _)
        have disAD := own_dis ho3 ho6
        have ho3 := ho3.alloc (.cells #[.int .u8 (p : Int), .int .u8 (q : Int), .int .u8 (n : Int)] 5)
        have hb := hb.alloc hb.size (.cells #[.int .u8 (p : Int), .int .u8 (q : Int), .int .u8 (n : Int)] 5)
        have hB := hB.alloc (.cells #[.int .u8 (p : Int), .int .u8 (q : Int), .int .u8 (n : Int)] 5)
        clear k0 k1 k2 k3 k4
        have k0 := hB.cell 0
        have k1 := hB.cell 1
        have k2 := hB.cell 2
        have k3 := hB.cell 3
        have k4 := hB.cell 4
        simp only [List.getElem?_toArray, List.getElem?_cons_zero, List.getElem?_cons_succ] at k0 k1 k2 k3 k4
        refine hK.out _ _ (fun _ => ⟨k0, k1, k2, k3, k4⟩) ?_
        clear hK K
        try simp only [Act.put, List.getElem_toArray, List.getElem_cons_succ, List.getElem_cons_zero, List.setIfInBounds_toArray, List.set_cons_zero, List.set_cons_succ]
        generalize w3.alloc _ = w6 at *
        refine wpAnyL_one (i := 5) (by kernel_rfl) rfl (fun K hK => ?_)
        go_simp
        refine (rword_any sq hsq _).mono ?_; rintro e w15 ⟨A15, rfl, ho15, hb15⟩
        have hbaB : w.heap.size + 1 ≤ w6.heap.size := hB.lt
        have disAB := own_dis ho3 ho15
        have disDB := own_dis ho6 ho15
        have ho3 := ho3.below hb15
        have ho6 := ho6.below hb15
        have hloB : w.heap.size < w15.heap.size := by have := hB.lt; have := hb15.size; omega
        have hb := below_step hb hb15 hb.size
        have hB := hB.below hb15 hB.lt
        clear k0 k1 k2 k3 k4
        have k0 := hB.cell 0
        have k1 := hB.cell 1
        have k2 := hB.cell 2
        have k3 := hB.cell 3
        have k4 := hB.cell 4
        simp only [List.getElem?_toArray, List.getElem?_cons_zero, List.getElem?_cons_succ] at k0 k1 k2 k3 k4
        clear hb15
        go_wp2_with fail
        refine hK.out _ _ (fun _ => ⟨k0, k1, k2, k3, k4⟩) ?_
        clear hK K
        try simp only [Act.put, List.getElem_toArray, List.getElem_cons_succ, List.getElem_cons_zero, List.setIfInBounds_toArray, List.set_cons_zero, List.set_cons_succ]
        refine wpAnyL_one (i := 6) (by kernel_rfl) rfl (fun K hK => ?_)
        refine step_appI _ rfl (.tmp 6) (.tmp 9) 23 rfl 5 1 Tryd.underlying23 cinfo (by omega) (ho3.mono (b' := w.heap.size + 1) hbaA) rfl ho15.ints rfl (by omega) (by have := hB.lt; omega) ?_
        intro A16 c16 w16 ho16 hg16 ha16
        have hb := below_own hb hg16 hb.size (fun ad e => by have := (ho3.lt_ ad e).1; have := hbaA; omega)
        have hB := hB.grown hg16 (own_apart ho3 hbaA)
        have ho6 := ho6.beside hg16 disAD
        clear k0 k1 k2 k3 k4
        have k0 := hB.cell 0
        have k1 := hB.cell 1
        have k2 := hB.cell 2
        have k3 := hB.cell 3
        have k4 := hB.cell 4
        simp only [List.getElem?_toArray, List.getElem?_cons_zero, List.getElem?_cons_succ] at k0 k1 k2 k3 k4
        refine hK.out _ _ (fun _ => ⟨k0, k1, k2, k3, k4⟩) ?_
        clear hK K
        try simp only [Act.put, List.getElem_toArray, List.getElem_cons_succ, List.getElem_cons_zero, List.setIfInBounds_toArray, List.set_cons_zero, List.set_cons_succ]
        refine wpAnyL_one (i := 18) (by kernel_rfl) rfl (fun K hK => ?_)
        refine step_appI _ rfl (.tmp 10) (.tmp 21) 23 rfl 5 1 Tryd.underlying23 cinfo (by omega) ho16 rfl ho6.ints rfl (by omega) (by have := hB.lt; omega) ?_
        intro A17 c17 w17 ho17 hg17 ha17
        have hb := below_own hb hg17 hb.size (fun ad e => by have := (ho16.lt_ ad e).1; omega)
        have hB := hB.grown hg17 (own_apart ho16 (Nat.le_refl _))
        clear k0 k1 k2 k3 k4
        have k0 := hB.cell 0
        have k1 := hB.cell 1
        have k2 := hB.cell 2
        have k3 := hB.cell 3
        have k4 := hB.cell 4
        simp only [List.getElem?_toArray, List.getElem?_cons_zero, List.getElem?_cons_succ] at k0 k1 k2 k3 k4
        refine hK.out _ _ (fun _ => ⟨k0, k1, k2, k3, k4⟩) ?_
        clear hK K
        try simp only [Act.put, List.getElem_toArray, List.getElem_cons_succ, List.getElem_cons_zero, List.setIfInBounds_toArray, List.set_cons_zero, List.set_cons_succ]
        refine wpAnyL_one (i := 21) (by kernel_rfl) rfl (fun K hK => ?_)
        refine step_appI _ rfl (.tmp 22) (.tmp 24) 23 rfl 5 1 Tryd.underlying23 cinfo (by omega) ho17 rfl (HR.out.below hb) rfl (by omega) (by have := hB.lt; omega) ?_
        intro A18 c18 w18 ho18 hg18 ha18
        have hb := below_own hb hg18 hb.size (fun ad e => by have := (ho17.lt_ ad e).1; omega)
        have hB := hB.grown hg18 (own_apart ho17 (Nat.le_refl _))
        clear k0 k1 k2 k3 k4
        have k0 := hB.cell 0
        have k1 := hB.cell 1
        have k2 := hB.cell 2
        have k3 := hB.cell 3
        have k4 := hB.cell 4
        simp only [List.getElem?_toArray, List.getElem?_cons_zero, List.getElem?_cons_succ] at k0 k1 k2 k3 k4
        refine hK.out _ _ (fun _ => ⟨k0, k1, k2, k3, k4⟩) ?_
        clear hK K
        try simp only [Act.put, List.getElem_toArray, List.getElem_cons_succ, List.getElem_cons_zero, List.setIfInBounds_toArray, List.set_cons_zero, List.set_cons_succ]
        refine wpAnyL_take (i := 22) (v := ?_) rfl (by kernel_rfl) (by kernel_rfl) (by kernel_rfl) (by kernel_rfl) (by kernel_rfl) (fun _ _ _ h => h) (Or.inl ⟨by kernel_rfl, ?_⟩) ⟨k0, k1, k2, k3, k4⟩ ?_
        rotate_left
        · rintro w0 ⟨h1_, h2_, h3_, h4_, h5_⟩; go_simp; (try with_reducible rfl)
        try simp only [Act.put, List.getElem_toArray, List.getElem_cons_succ, List.getElem_cons_zero, List.setIfInBounds_toArray, List.set_cons_zero, List.set_cons_succ]
        refine wpAnyL_done (by kernel_rfl) ?_ _
        go_wp2_with fail
        go_meet
        exact ⟨A18, c18, rfl, ho18.mono (by omega), hb⟩
    · go_simp
      have ho4 := OwnI.lit (w := w2) (base := w2.heap.size) .u8 256 5 (n := 3) (cs := #[.int .u8 (p : Int), .int .u8 (q : Int), .int .u8 (n : Int)]) [p, q, n] (g := w2.heap.size) rfl rfl rfl HLit.out (by omega) (Nat.le_refl _)
      have hb := hb.alloc hb.size (.cells #[.int .u8 (p : Int), .int .u8 (q : Int), .int .u8 (n : Int)] 5)
      have hB := hB.alloc (.cells #[.int .u8 (p : Int), .int .u8 (q : Int), .int .u8 (n : Int)] 5)
      clear k0 k1 k2 k3 k4
      have k0 := hB.cell 0
      have k1 := hB.cell 1
      have k2 := hB.cell 2
      have k3 := hB.cell 3
      have k4 := hB.cell 4
      simp only [List.getElem?_toArray, List.getElem?_cons_zero, List.getElem?_cons_succ] at k0 k1 k2 k3 k4
      refine hK.out _ _ (fun _ => ⟨k0, k1, k2, k3, k4⟩) ?_
      clear hK K
      try simp only [Act.put, List.getElem_toArray, List.getElem_cons_succ, List.getElem_cons_zero, List.setIfInBounds_toArray, List.set_cons_zero, List.set_cons_succ]
      generalize w2.alloc _ = w4 at *
      refine wpAnyL_one (i := 2) (by kernel_rfl) rfl (fun K hK => ?_)
      go_simp
      refine (rword_any gs hgs _).mono ?_; rintro e w19 ⟨A19, rfl, ho19, hb19⟩
      have hbaA : w.heap.size + 1 ≤ w4.heap.size := hB.lt
      have disDA := own_dis ho4 ho19
      have ho4 := ho4.below hb19
      have hloA : w.heap.size < w19.heap.size := by have := hB.lt; have := hb19.size; omega
      have hb := below_step hb hb19 hb.size
      have hB := hB.below hb19 hB.lt
      clear k0 k1 k2 k3 k4
      have k0 := hB.cell 0
      have k1 := hB.cell 1
      have k2 := hB.cell 2
      have k3 := hB.cell 3
      have k4 := hB.cell 4
      simp only [List.getElem?_toArray, List.getElem?_cons_zero, List.getElem?_cons_succ] at k0 k1 k2 k3 k4
      clear hb19
      go_wp2_with fail
      refine hK.out _ _ (fun _ => ⟨k0, k1, k2, k3, k4⟩) ?_
      clear hK K
      try simp only [Act.put, List.getElem_toArray, List.getElem_cons_succ, List.getElem_cons_zero, List.setIfInBounds_toArray, List.set_cons_zero, List.set_cons_succ]
      refine wpAnyL_one (i := 5) (by kernel_rfl) rfl (fun K hK => ?_)
      go_simp
      refine (rword_any sq hsq _).mono ?_; rintro e w20 ⟨A20, rfl, ho20, hb20⟩
      have hbaB : w.heap.size + 1 ≤ w19.heap.size := hB.lt
      have disDB := own_dis ho4 ho20
      have disAB := own_dis ho19 ho20
      have ho4 := ho4.below hb20
      have ho19 := ho19.below hb20
      have hloB : w.heap.size < w20.heap.size := by have := hB.lt; have := hb20.size; omega
      have hb := below_step hb hb20 hb.size
      have hB := hB.below hb20 hB.lt
      clear k0 k1 k2 k3 k4
      have k0 := hB.cell 0
      have k1 := hB.cell 1
      have k2 := hB.cell 2
      have k3 := hB.cell 3
      have k4 := hB.cell 4
      simp only [List.getElem?_toArray, List.getElem?_cons_zero, List.getElem?_cons_succ] at k0 k1 k2 k3 k4
      clear hb20
      go_wp2_with fail
      refine hK.out _ _ (fun _ => ⟨k0, k1, k2, k3, k4⟩) ?_
      clear hK K
      try simp only [Act.put, List.getElem_toArray, List.getElem_cons_succ, List.getElem_cons_zero, List.setIfInBounds_toArray, List.set_cons_zero, List.set_cons_succ]
      refine wpAnyL_one (i := 6) (by kernel_rfl) rfl (fun K hK => ?_)
      refine step_appI _ rfl (.tmp 6) (.tmp 9) 23 rfl 5 1 Tryd.underlying23 cinfo (by omega) (ho19.mono (b' := w.heap.size + 1) hbaA) rfl ho20.ints rfl (by omega) (by have := hB.lt; omega) ?_
      intro A21 c21 w21 ho21 hg21 ha21
      have hb := below_own hb hg21 hb.size (fun ad e => by have := (ho19.lt_ ad e).1; have := hbaA; omega)
      have hB := hB.grown hg21 (own_apart ho19 hbaA)
      have ho4 := ho4.beside hg21 disDA.symm
      clear k0 k1 k2 k3 k4
      have k0 := hB.cell 0
      have k1 := hB.cell 1
      have k2 := hB.cell 2
      have k3 := hB.cell 3
      have k4 := hB.cell 4
      simp only [List.getElem?_toArray, List.getElem?_cons_zero, List.getElem?_cons_succ] at k0 k1 k2 k3 k4
      refine hK.out _ _ (fun _ => ⟨k0, k1, k2, k3, k4⟩) ?_
      clear hK K
      try simp only [Act.put, List.getElem_toArray, List.getElem_cons_succ, List.getElem_cons_zero, List.setIfInBounds_toArray, List.set_cons_zero, List.set_cons_succ]
      refine wpAnyL_one (i := 18) (by kernel_rfl) rfl (fun K hK => ?_)
      refine step_appI _ rfl (.tmp 10) (.tmp 21) 23 rfl 5 1 Tryd.underlying23 cinfo (by omega) ho21 rfl ho4.ints rfl (by omega) (by have := hB.lt; omega) ?_
      intro A22 c22 w22 ho22 hg22 ha22
      have hb := below_own hb hg22 hb.size (fun ad e => by have := (ho21.lt_ ad e).1; omega)
      have hB := hB.grown hg22 (own_apart ho21 (Nat.le_refl _))
      clear k0 k1 k2 k3 k4
      have k0 := hB.cell 0
      have k1 := hB.cell 1
      have k2 := hB.cell 2
      have k3 := hB.cell 3
      have k4 := hB.cell 4
      simp only [List.getElem?_toArray, List.getElem?_cons_zero, List.getElem?_cons_succ] at k0 k1 k2 k3 k4
      refine hK.out _ _ (fun _ => ⟨k0, k1, k2, k3, k4⟩) ?_
      clear hK K
      try simp only [Act.put, List.getElem_toArray, List.getElem_cons_succ, List.getElem_cons_zero, List.setIfInBounds_toArray, List.set_cons_zero, List.set_cons_succ]
      refine wpAnyL_one (i := 21) (by kernel_rfl) rfl (fun K hK => ?_)
      refine step_appI _ rfl (.tmp 22) (.tmp 24) 23 rfl 5 1 Tryd.underlying23 cinfo (by omega) ho22 rfl (HR.out.below hb) rfl (by omega) (by have := hB.lt; omega) ?_
      intro A23 c23 w23 ho23 hg23 ha23
      have hb := below_own hb hg23 hb.size (fun ad e => by have := (ho22.lt_ ad e).1; omega)
      have hB := hB.grown hg23 (own_apart ho22 (Nat.le_refl _))
      clear k0 k1 k2 k3 k4
      have k0 := hB.cell 0
      have k1 := hB.cell 1
      have k2 := hB.cell 2
      have k3 := hB.cell 3
      have k4 := hB.cell 4
      simp only [List.getElem?_toArray, List.getElem?_cons_zero, List.getElem?_cons_succ] at k0 k1 k2 k3 k4
      refine hK.out _ _ (fun _ => ⟨k0, k1, k2, k3, k4⟩) ?_
      clear hK K
      try simp only [Act.put, List.getElem_toArray, List.getElem_cons_succ, List.getElem_cons_zero, List.setIfInBounds_toArray, List.set_cons_zero, List.set_cons_succ]
      refine wpAnyL_take (i := 22) (v := ?_) rfl (by kernel_rfl) (by kernel_rfl) (by kernel_rfl) (by kernel_rfl) (by kernel_rfl) (fun _ _ _ h => h) (Or.inl ⟨by kernel_rfl, ?_⟩) ⟨k0, k1, k2, k3, k4⟩ ?_
      rotate_left
      · rintro w0 ⟨h1_, h2_, h3_, h4_, h5_⟩; go_simp; (try with_reducible rfl)
      try simp only [Act.put, List.getElem_toArray, List.getElem_cons_succ, List.getElem_cons_zero, List.setIfInBounds_toArray, List.set_cons_zero, List.set_cons_succ]
      refine wpAnyL_done (by kernel_rfl) ?_ _
      go_wp2_with fail
      go_meet
      exact ⟨A23, c23, rfl, ho23.mono (by omega), hb⟩
  case rest =>
    obtain ⟨A5, c5, rfl, ho5, hb5⟩ := hcut
    have hm60 : 4 + 4 + 3 + n ≤ 60 := by omega
    generalize hP : ((four gs ++ four sq) ++ [p, q, n]) ++ l = P at *
    clear wp8 wq8 wn8 ep eq_ en HBB HLit
    go_wp2_with fail
    go_loopw [3] (fun v wr => ∃ (j : Nat) (A5 : Option Addr) (c5 : Nat), 4 + 4 + 3 + n + j ≤ 60 ∧ v = .slice A5 (4 + 4 + 3 + n + j) c5 ∧ OwnI wr w.heap.size .u8 256 5 A5 (4 + 4 + 3 + n + j) c5 (P ++ List.replicate j 0) ∧ Below w.heap.size w wr) (fun v _ => 60 - sliceLen v)
    case atStart => exact ⟨0, A5, c5, hm60, rfl, by simpa using ho5, hb5⟩
    case round =>
      obtain ⟨j, A6, c6, hj, rfl, ho6, hb6⟩ := hrel
      clear ho5 hb5
      obtain ⟨m, hm_⟩ : ∃ m, 4 + 4 + 3 + n + j = m := ⟨_, rfl⟩
      rw [hm_] at ho6 ⊢
      have hs6 := hb6.size
      have HM := Lib.hid hm_
      by_cases hlt : m < 60
      · have hl : (m : Int) < 60 := by omega
        have h0 : (0 : Int) ≤ (m : Int) := by omega
        go_wp2_with (at_builtin; go_loud (refine wpList_appI _ rfl (.tmp 29) (.tmp 30) _ rfl 5 1 Tryd.underlying23 cinfo (by omega) (ho6.alloc _) rfl (Ints.one .u8 256 5 0 rfl (by omega) rfl) rfl (by omega) (by simp; omega) ?_); intro A7 c7 w7 ho7 hg7 ha7; have H7 := Lib.hid (And.intro ho7 (below_own (hb6.alloc hs6 _) hg7 (by simp; omega) (fun ad e => (ho6.lt_ ad e).1))); clear ho7 hg7 ha7)
        have hk : 4 + 4 + 3 + n + (j + 1) = m + 1 := by omega
        exact ⟨⟨j + 1, A7, c7, by omega, by rw [hk], by rw [hk, List.replicate_succ', ← List.append_assoc]; exact H7.out.1, H7.out.2⟩, by simp [sliceLen]; omega⟩
      · have hl : ¬ (m : Int) < 60 := by omega
        have h60 : m = 60 := by omega
        subst h60
        have HO := Lib.hid ho6
        have HB := Lib.hid hb6
        have hj49 : j = 49 - n := by omega
        have HJ := Lib.hid hj49
        clear hj49 hj hm_ HM ho6 hb6
        go_wp2_with fail
        refine (refSeal_any A6 60 c6 _ _ HO.out.ints (by omega)).mono ?_; rintro e w9 ⟨A9, c9, rfl, ho9, hb9⟩
        have H9 := Lib.hid (And.intro (ho9.mono HB.out.size) (below_step HB.out hb9 HB.out.size))
        clear ho9 hb9
        go_wp2_with fail
        go_ret
        refine ⟨A9, c9, rfl, ?_, H9.out.2⟩
        unfold Cl.enc
        rw [HY.out, ← HJ.out]
        exact H9.out.1
set_option maxRecDepth 100000 in
set_option maxHeartbeats 1600000 in
theorem rencode_any (gs sq : Nat) (hgs : gs < 4294967296) (hsq : sq < 4294967296) (pt ps : Int) (hp : -9223372036854775808 ≤ ps ∧ ps ≤ 9223372036854775807) (A : Option Addr) (n c : Nat) (l : List Nat) (w : World) (hr : Ints w .u8 256 A n c l) :
    Calls Tryd.prog 17 #[.agg #[.int .u32 (gs : Int), .int .u32 (sq : Int), .int .i64 pt, .int .i64 ps, .slice A n c]] w fun e w' => ∃ A' m c', e = .returned (.tuple #[.slice A' m c', .int .i64 (Cl.encCode ⟨gs, sq, pt, ps, l⟩)]) ∧ OwnI w' w.heap.size .u8 256 5 A' m c' (Cl.encL ⟨gs, sq, pt, ps, l⟩) ∧ Below w.heap.size w w' := by
  have hmay : Cl.may ⟨gs, sq, pt, ps, l⟩ = mayN pt ps n := by rw [may_eq, hr.len]
  have hb : Below w.heap.size w (w.alloc (.cells #[.int .u32 (gs : Int), .int .u32 (sq : Int), .int .i64 pt, .int .i64 ps, .slice A n c] 25)) := (Below.refl _ _).alloc (Nat.le_refl _) _
  have hB := Blk.new w 25 #[.int .u32 (gs : Int), .int .u32 (sq : Int), .int .i64 pt, .int .i64 ps, .slice A n c]
  cases hm : mayN pt ps n with
  | false =>
    have e1 : Cl.encCode ⟨gs, sq, pt, ps, l⟩ = 1 := by unfold Cl.encCode; rw [hmay, hm]; rfl
    have e2 : Cl.encL ⟨gs, sq, pt, ps, l⟩ = [] := by unfold Cl.encL; rw [hmay, hm]; rfl
    rw [e1, e2]
    have HB := Lib.hid hb
    clear hb hB hmay e1 e2 hr
    go_enter Tryd.func17, Tryd.ntmps17
    go_wp2_with fail
    refine (rmay_any gs sq pt ps A n c _ hp).mono ?_; rintro e w1 ⟨rfl, hb1⟩
    rw [hm]
    have HB1 := Lib.hid (below_step HB.out hb1 (by simp))
    clear hb1
    go_wp2_with fail
    go_ret2
    exact ⟨none, 0, 0, rfl, OwnI.nil_ .., HB1.out⟩
  | true =>
    have e1 : Cl.encCode ⟨gs, sq, pt, ps, l⟩ = 0 := by unfold Cl.encCode; rw [hmay, hm]; rfl
    have e2 : Cl.encL ⟨gs, sq, pt, ps, l⟩ = Cl.enc ⟨gs, sq, pt, ps, l⟩ := by unfold Cl.encL; rw [hmay, hm]; rfl
    rw [e1, e2]
    obtain ⟨h1, h2, h3, h4, _⟩ := mayN_iff.1 hm
    obtain ⟨p, rfl⟩ : ∃ p : Nat, pt = (p : Int) := ⟨pt.toNat, by omega⟩
    obtain ⟨q, rfl⟩ : ∃ q : Nat, ps = (q : Int) := ⟨ps.toNat, by omega⟩
    have HB := Lib.hid (And.intro hb (And.intro hB hr))
    clear hb hB hmay e1 e2 hr h1 h2 h3 h4
    go_enter Tryd.func17, Tryd.ntmps17
    go_wp2_with fail
    refine (rmay_any gs sq p q A n c _ hp).mono ?_; rintro e w1 ⟨rfl, hb1⟩
    rw [hm]
    have hb1' := below_step HB.out.1 hb1 (by simp)
    have hB1 := HB.out.2.1.below hb1 (by simp)
    have HR := Lib.hid (And.intro (HB.out.2.2.below hb1') hb1')
    have c0 := hB1.cell 0
    have c1_ := hB1.cell 1
    have c2 := hB1.cell 2
    have c3 := hB1.cell 3
    have c4 := hB1.cell 4
    simp only [List.getElem?_toArray, List.getElem?_cons_zero, List.getElem?_cons_succ] at c0 c1_ c2 c3 c4
    clear hb1 hb1' hB1
    go_wp2_with fail
    refine (rwrite_any gs sq hgs hsq p q A n c l _ HR.out.1 hm).mono ?_; rintro e w2 ⟨A2, c2_, rfl, ho2, hb2⟩
    have H2 := Lib.hid (And.intro (ho2.mono HR.out.2.size) (below_step HR.out.2 hb2 HR.out.2.size))
    clear ho2 hb2 c0 c1_ c2 c3 c4
    go_wp2_with fail
    go_ret2
    exact ⟨A2, 64, c2_, rfl, H2.out.1, H2.out.2⟩
theorem encode_any (gs sq : Nat) (hgs : gs < 4294967296) (hsq : sq < 4294967296) (pt ps : Int) (hp : -9223372036854775808 ≤ ps ∧ ps ≤ 9223372036854775807) (A : Option Addr) (n c : Nat) (l : List Nat) (w : World) (hr : Ints w .u8 256 A n c l) :
    Calls Tryd.prog 16 #[.agg #[.int .u32 (gs : Int), .int .u32 (sq : Int), .int .i64 pt, .int .i64 ps, .slice A n c]] w fun e w' => ∃ A' m c', e = .returned (.tuple #[.slice A' m c', .int .i64 (Cl.encCode ⟨gs, sq, pt, ps, l⟩)]) ∧ OwnI w' w.heap.size .u8 256 5 A' m c' (Cl.encL ⟨gs, sq, pt, ps, l⟩) ∧ Below w.heap.size w w' := by
  have hmay : Cl.may ⟨gs, sq, pt, ps, l⟩ = mayN pt ps n := by rw [may_eq, hr.len]
  cases hm : mayN pt ps n with
  | false =>
    have e1 : Cl.encCode ⟨gs, sq, pt, ps, l⟩ = 1 := by unfold Cl.encCode; rw [hmay, hm]; rfl
    have e2 : Cl.encL ⟨gs, sq, pt, ps, l⟩ = [] := by unfold Cl.encL; rw [hmay, hm]; rfl
    rw [e1, e2]
    exact (encode_no gs sq pt ps A n c w hp hm).mono fun _ _ ⟨he, hb⟩ => ⟨none, 0, 0, he, OwnI.nil_ .., hb⟩
  | true =>
    have e1 : Cl.encCode ⟨gs, sq, pt, ps, l⟩ = 0 := by unfold Cl.encCode; rw [hmay, hm]; rfl
    have e2 : Cl.encL ⟨gs, sq, pt, ps, l⟩ = Cl.enc ⟨gs, sq, pt, ps, l⟩ := by unfold Cl.encL; rw [hmay, hm]; rfl
    rw [e1, e2]
    obtain ⟨h1, h2, h3, h4, _⟩ := mayN_iff.1 hm
    obtain ⟨p, rfl⟩ : ∃ p : Nat, pt = (p : Int) := ⟨pt.toNat, by omega⟩
    obtain ⟨q, rfl⟩ : ∃ q : Nat, ps = (q : Int) := ⟨ps.toNat, by omega⟩
    exact (encode_yes gs sq hgs hsq p q A n c l w hr hm).mono fun _ _ ⟨A', c', he, ho, hb⟩ => ⟨A', 64, c', he, ho, hb⟩
end Go.Proofs.YtfoeapjlklfjgaaDoor
