/- The contracts of cell.May, word, number and Need. No condition but the reach of a slice. -/
import Derived.Test.YtdlcngmcjidomaaDoorCellMath2
import Derived.Test.YtdlcngmcjidomaaDoorDiskA
namespace Go.Proofs.YtdlcngmcjidomaaDoor
set_option linter.unusedSimpArgs false
set_option linter.unusedVariables false
open Go.RowKit

/-- What is asked of a cell's numbers. -/
def mayN (pt ps : Int) (n : Nat) : Bool := decide (1 ≤ ps ∧ ps ≤ 8 ∧ 0 ≤ pt ∧ pt < ps ∧ 1 ≤ n ∧ n ≤ 49 ∧ (n = 49 ∨ pt = ps - 1))
theorem may_eq (gs sq : Nat) (pt ps : Int) (l : List Nat) : Cl.may ⟨gs, sq, pt, ps, l⟩ = mayN pt ps l.length := rfl
theorem mayN_no {pt ps : Int} {n : Nat} (h : ¬ (1 ≤ ps ∧ ps ≤ 8 ∧ 0 ≤ pt ∧ pt < ps ∧ 1 ≤ n ∧ n ≤ 49 ∧ (n = 49 ∨ pt = ps - 1))) : Ending.returned (.bool false) = .returned (.bool (mayN pt ps n)) := by unfold mayN; rw [decide_eq_false h]
theorem mayN_yes {pt ps : Int} {n : Nat} (h : 1 ≤ ps ∧ ps ≤ 8 ∧ 0 ≤ pt ∧ pt < ps ∧ 1 ≤ n ∧ n ≤ 49 ∧ (n = 49 ∨ pt = ps - 1)) : Ending.returned (.bool true) = .returned (.bool (mayN pt ps n)) := by unfold mayN; rw [decide_eq_true h]

set_option maxRecDepth 100000 in
set_option maxHeartbeats 3200000 in
theorem cmay_any (gs sq : Nat) (pt ps : Int) (A : Option Addr) (n c : Nat) (w : World) (hp : -9223372036854775808 ≤ ps ∧ ps ≤ 9223372036854775807) :
    Calls Tryd.prog 58 #[.agg #[.int .u32 (gs : Int), .int .u32 (sq : Int), .int .i64 pt, .int .i64 ps, .slice A n c]] w fun e w' => e = .returned (.bool (mayN pt ps n)) ∧ Below w.heap.size w w' := by
  have hb : Below w.heap.size w (w.alloc (.cells #[.int .u32 (gs : Int), .int .u32 (sq : Int), .int .i64 pt, .int .i64 ps, .slice A n c] 73)) := (Below.refl _ _).alloc (Nat.le_refl _) _
  have HB := Lib.hid hb
  clear hb
  by_cases h1 : 1 ≤ ps
  case neg =>
    have HN := Lib.hid (mayN_no (pt := pt) (ps := ps) (n := n) (fun h => h1 h.1))
    have d1 : decide (1 ≤ ps) = false := decide_eq_false h1
    clear h1
    go_enter Tryd.func58, Tryd.ntmps58
    go_wp2_with fail
    go_ret
    exact ⟨HN.out, HB.out⟩
  have d1 : decide (1 ≤ ps) = true := decide_eq_true h1
  by_cases h2 : ps ≤ 8
  case neg =>
    have HN := Lib.hid (mayN_no (pt := pt) (ps := ps) (n := n) (fun h => h2 h.2.1))
    have d2 : decide (ps ≤ 8) = false := decide_eq_false h2
    clear h1 h2
    go_enter Tryd.func58, Tryd.ntmps58
    go_wp2_with fail
    go_ret
    exact ⟨HN.out, HB.out⟩
  have d2 : decide (ps ≤ 8) = true := decide_eq_true h2
  by_cases h3 : 0 ≤ pt
  case neg =>
    have HN := Lib.hid (mayN_no (pt := pt) (ps := ps) (n := n) (fun h => h3 h.2.2.1))
    have d3 : decide (0 ≤ pt) = false := decide_eq_false h3
    clear h1 h2 h3
    go_enter Tryd.func58, Tryd.ntmps58
    go_wp2_with fail
    go_ret
    exact ⟨HN.out, HB.out⟩
  have d3 : decide (0 ≤ pt) = true := decide_eq_true h3
  by_cases h4 : pt < ps
  case neg =>
    have HN := Lib.hid (mayN_no (pt := pt) (ps := ps) (n := n) (fun h => h4 h.2.2.2.1))
    have d4 : decide (pt < ps) = false := decide_eq_false h4
    clear h1 h2 h3 h4
    go_enter Tryd.func58, Tryd.ntmps58
    go_wp2_with fail
    go_ret
    exact ⟨HN.out, HB.out⟩
  have d4 : decide (pt < ps) = true := decide_eq_true h4
  by_cases h5 : 1 ≤ n
  case neg =>
    have HN := Lib.hid (mayN_no (pt := pt) (ps := ps) (n := n) (fun h => h5 h.2.2.2.2.1))
    have d5 : decide (1 ≤ (n : Int)) = false := decide_eq_false (by omega)
    clear h1 h2 h3 h4 h5
    go_enter Tryd.func58, Tryd.ntmps58
    go_wp2_with fail
    go_ret
    exact ⟨HN.out, HB.out⟩
  have d5 : decide (1 ≤ (n : Int)) = true := decide_eq_true (by omega)
  by_cases h6 : n ≤ 49
  case neg =>
    have HN := Lib.hid (mayN_no (pt := pt) (ps := ps) (n := n) (fun h => h6 h.2.2.2.2.2.1))
    have d6 : decide ((n : Int) ≤ 49) = false := decide_eq_false (by omega)
    clear h1 h2 h3 h4 h5 h6
    go_enter Tryd.func58, Tryd.ntmps58
    go_wp2_with fail
    go_ret
    exact ⟨HN.out, HB.out⟩
  have d6 : decide ((n : Int) ≤ 49) = true := decide_eq_true (by omega)
  by_cases h7 : n = 49
  · have HN := Lib.hid (mayN_yes (pt := pt) (ps := ps) (n := n) ⟨h1, h2, h3, h4, h5, h6, .inl h7⟩)
    have d7 : ((n : Int) == 49) = true := by simp [h7]
    clear h1 h2 h3 h4 h5 h6 h7
    go_enter Tryd.func58, Tryd.ntmps58
    go_wp2_with fail
    go_ret
    exact ⟨HN.out, HB.out⟩
  have d7 : ((n : Int) == 49) = false := by simp; omega
  by_cases h8 : pt = ps - 1
  · have HN := Lib.hid (mayN_yes (pt := pt) (ps := ps) (n := n) ⟨h1, h2, h3, h4, h5, h6, .inr h8⟩)
    have d8 : (pt == ps - 1) = true := by simp [h8]
    clear h3 h4 h5 h6 h7 h8
    go_enter Tryd.func58, Tryd.ntmps58
    go_wp2_with fail
    go_ret
    exact ⟨HN.out, HB.out⟩
  · have HN := Lib.hid (mayN_no (pt := pt) (ps := ps) (n := n) (fun h => h.2.2.2.2.2.2.elim h7 h8))
    have d8 : (pt == ps - 1) = false := by simpa using h8
    clear h3 h4 h5 h6 h7 h8
    go_enter Tryd.func58, Tryd.ntmps58
    go_wp2_with fail
    go_ret
    exact ⟨HN.out, HB.out⟩

theorem need_div {n : Int} (h1 : 1 ≤ n) (h2 : n ≤ 392) : (n + 48) / 49 = (Cl.need n.toNat : Nat) := by
  rw [(Cl.need_pos (n := n.toNat) (by omega) (by omega)).1]; omega
set_option maxRecDepth 100000 in
theorem cneed_any (n : Int) (w : World) (h1 : -9223372036854775808 ≤ n) (h2 : n ≤ 9223372036854775807) :
    Calls Tryd.prog 64 #[.int .i64 n] w fun e w' => e = .returned (.int .i64 (Cl.need n.toNat : Nat)) ∧ w = w' := by
  by_cases h3 : n < 1
  · have HZ := Lib.hid (Cl.need_zero (n := n.toNat) (by omega))
    go_enter Tryd.func64, Tryd.ntmps64
    go_wp2_with fail
    go_ret
    exact ⟨by rw [HZ.out]; rfl, rfl⟩
  by_cases h4 : 392 < n
  · have HZ := Lib.hid (Cl.need_zero (n := n.toNat) (by omega))
    go_enter Tryd.func64, Tryd.ntmps64
    go_wp2_with fail
    go_ret
    exact ⟨by rw [HZ.out]; rfl, rfl⟩
  · have HZ := Lib.hid (need_div (n := n) (by omega) (by omega))
    have k1 : 1 ≤ n := by omega
    have k2 : n ≤ 392 := by omega
    go_enter Tryd.func64, Tryd.ntmps64
    go_wp2_with fail
    go_ret
    exact ⟨ret_int (by rw [← HZ.out]; omega), rfl⟩

theorem four_names (v : Nat) (hv : v < 4294967296) : ∃ x0 x1 x2 x3 : Nat, four v = [x0, x1, x2, x3] ∧ (v : Int) % 256 = (x0 : Int) ∧ (v : Int) / 256 % 256 = (x1 : Int) ∧ (v : Int) / 65536 % 256 = (x2 : Int) ∧ (v : Int) / 16777216 = (x3 : Int) :=
  ⟨_, _, _, _, rfl, by omega, by omega, by omega, by omega⟩
set_option maxRecDepth 100000 in
set_option maxHeartbeats 800000 in
theorem word_any (v : Nat) (hv : v < 4294967296) (w : World) :
    Calls Tryd.prog 60 #[.int .u32 (v : Int)] w fun e w' => ∃ A, e = .returned (.slice A 4 4) ∧ OwnI w' w.heap.size .u8 256 5 A 4 4 (four v) ∧ Below w.heap.size w w' := by
  obtain ⟨x0, x1, x2, x3, hf, e0, e1, e2, e3⟩ := four_names v hv
  have ho : OwnI (w.alloc (.cells #[.int .u8 (x0 : Int), .int .u8 (x1 : Int), .int .u8 (x2 : Int), .int .u8 (x3 : Int)] 5)) w.heap.size .u8 256 5 (some ⟨w.heap.size, 0, none⟩) 4 4 (four v) :=
    OwnI.lit .u8 256 5 (four v) rfl rfl (by rw [hf]; rfl) (four_lt v) (by omega) (Nat.le_refl _)
  have HO := Lib.hid ho
  clear ho hf
  have h0 : (0 : Int) ≤ (v : Int) := by omega
  have h1 : (v : Int) < 4294967296 := by omega
  generalize (v : Int) = V at *
  go_enter Tryd.func60, Tryd.ntmps60
  go_wp2_with fail
  go_ret
  exact ⟨_, rfl, HO.out, (Below.refl _ _).alloc (Nat.le_refl _) _⟩

theorem num_snoc {l : List Nat} {k x : Nat} (hx : l[k]? = some x) : Crc.num (l.take (k + 1)) = Crc.num (l.take k) + 2 ^ (8 * k) * x := by
  have hk := (List.getElem?_eq_some_iff.1 hx).1
  rw [List.take_add_one, hx, Option.toList_some, Crc.num_append, List.length_take, Nat.min_eq_left (by omega)]
  congr 2
theorem or_num1 (y x : Nat) (hy : y < 256) (hx : x < 256) : bits .or .u32 (y : Int) ((x : Int) * 256) = ((y + 2 ^ (8 * 1) * x : Nat) : Int) := by
  have e : (x : Int) * 256 = ((x * 256 : Nat) : Int) := by omega
  have k : y ||| x * 256 = y + 2 ^ (8 * 1) * x := by rw [Nat.or_comm, nat_join 8 _ _ (by omega) (by omega)]; omega
  rw [e, u32_or_nat _ _ (by omega) (by omega), k]
theorem or_num2 (y x : Nat) (hy : y < 65536) (hx : x < 256) : bits .or .u32 (y : Int) ((x : Int) * 65536) = ((y + 2 ^ (8 * 2) * x : Nat) : Int) := by
  have e : (x : Int) * 65536 = ((x * 65536 : Nat) : Int) := by omega
  have k : y ||| x * 65536 = y + 2 ^ (8 * 2) * x := by rw [Nat.or_comm, nat_join 16 _ _ (by omega) (by omega)]; omega
  rw [e, u32_or_nat _ _ (by omega) (by omega), k]
theorem or_num3 (y x : Nat) (hy : y < 16777216) (hx : x < 256) : bits .or .u32 (y : Int) ((x : Int) * 16777216) = ((y + 2 ^ (8 * 3) * x : Nat) : Int) := by
  have e : (x : Int) * 16777216 = ((x * 16777216 : Nat) : Int) := by omega
  have k : y ||| x * 16777216 = y + 2 ^ (8 * 3) * x := by rw [Nat.or_comm, nat_join 24 _ _ (by omega) (by omega)]; omega
  rw [e, u32_or_nat _ _ (by omega) (by omega), k]
theorem num_take_lt {l : List Nat} (hl : ∀ c ∈ l, c < 256) (k : Nat) (hk : k ≤ 4) : Crc.num (l.take k) < 2 ^ (8 * k) := by
  refine Nat.lt_of_lt_of_le (Crc.num_lt _ (fun c hc => hl c (List.mem_of_mem_take hc))) (Nat.pow_le_pow_right (by decide) ?_)
  rw [List.length_take]; omega
set_option maxRecDepth 100000 in
set_option maxHeartbeats 1600000 in
theorem number_any {A : Option Addr} {n c : Nat} {l : List Nat} {w : World} (hr : Ints w .u8 256 A n c l) (h4 : 4 ≤ n) :
    Calls Tryd.prog 67 #[.slice A n c] w fun e w' => e = .returned (.int .u32 (Crc.num (l.take 4) : Nat)) ∧ w = w' := by
  go_enter Tryd.func67, Tryd.ntmps67
  go_wp2_with fail
  go_loop [3, 5] (fun v i => ∃ k : Nat, k ≤ 4 ∧ i = .int .i64 k ∧ v = .int .u32 (Crc.num (l.take k) : Nat)) (fun _ i => 4 - (intOf i).toNat)
  case atStart => exact ⟨0, by omega, rfl, rfl⟩
  case round =>
    obtain ⟨k, hk, rfl, rfl⟩ := hrel
    by_cases hlt : k < 4
    · obtain ⟨b, o, x, rfl, _, hx, hxl, hc⟩ := hr.get (k := k) (by omega)
      have hy := num_take_lt hr.lt k hk
      have HS := Lib.hid (num_snoc hx)
      clear hx
      obtain rfl | rfl | rfl | rfl : k = 0 ∨ k = 1 ∨ k = 2 ∨ k = 3 := by omega
      · have hn1 : (0 : Int) < (n : Int) := by omega
        rw [Nat.add_zero] at hc
        have e0 : Crc.num (l.take 0) = 0 := rfl
        rw [e0] at HS ⊢
        have e1 : bits .or .u32 0 (x : Int) = (x : Int) := by
          have := u32_or_nat 0 x (by omega) (by omega)
          rw [Nat.zero_or] at this
          exact this
        go_wp2_with fail
        go_round
        case rel => exact ⟨1, by omega, by go_num, by rw [HS.out]; simp⟩
        case measure => simp [intOf]
      · have hn1 : (1 : Int) < (n : Int) := by omega
        generalize Crc.num (l.take 1) = y at *
        have e1 := or_num1 y x (by simpa using hy) hxl
        obtain ⟨z, hz⟩ : ∃ z, y + 2 ^ (8 * 1) * x = z := ⟨_, rfl⟩
        rw [hz] at HS e1
        clear hz
        go_wp2_with fail
        go_round
        case rel => exact ⟨2, by omega, by go_num, by rw [HS.out]⟩
        case measure => simp [intOf]
      · have hn1 : (2 : Int) < (n : Int) := by omega
        generalize Crc.num (l.take 2) = y at *
        have e1 := or_num2 y x (by simpa using hy) hxl
        obtain ⟨z, hz⟩ : ∃ z, y + 2 ^ (8 * 2) * x = z := ⟨_, rfl⟩
        rw [hz] at HS e1
        clear hz
        go_wp2_with fail
        go_round
        case rel => exact ⟨3, by omega, by go_num, by rw [HS.out]⟩
        case measure => simp [intOf]
      · have hn1 : (3 : Int) < (n : Int) := by omega
        generalize Crc.num (l.take 3) = y at *
        have e1 := or_num3 y x (by simpa using hy) hxl
        obtain ⟨z, hz⟩ : ∃ z, y + 2 ^ (8 * 3) * x = z := ⟨_, rfl⟩
        rw [hz] at HS e1
        clear hz
        go_wp2_with fail
        go_round
        case rel => exact ⟨4, by omega, by go_num, by rw [HS.out]⟩
        case measure => simp [intOf]
    · obtain rfl : k = 4 := by omega
      go_wp2_with fail
      go_ret
      exact ⟨rfl, rfl⟩
end Go.Proofs.YtdlcngmcjidomaaDoor
