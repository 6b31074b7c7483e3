/- The law DiskTorn, walked. No condition. -/
import Derived.Test.YtkjmccicdjkccaaDAwake
import Derived.Test.YtkjmccicdjkccaaDMath2
namespace Go.Proofs.Ytkjmccicdjkccaa
set_option linter.unusedSimpArgs false
set_option linter.unusedVariables false
open Go.RowKit

/-- The sectors of a new disk of eight. -/
def su8 : List (List Nat) := (DSt.new 8).sure
theorem su8_len : su8.length = 8 := by decide
theorem su8_get {j : Nat} (h : j < 8) : su8.getD j [] = rowL 0 false := by
  show (List.replicate 8 (List.replicate 64 0)).getD j [] = _
  rw [DSt.getD_rep h]
  unfold rowL
  rw [if_neg (by decide), List.append_nil]
theorem row_ne (c : Nat) : rowL c false ≠ [] := fun e => by have := rowL_len c; rw [e] at this; cases this

set_option maxRecDepth 100000 in
set_option maxHeartbeats 6400000 in
theorem diskTorn_any (a c : Nat) (fl : Bool) (w : World) (ha : a < 256) (hc : c < 256) : Calls Try.prog 4 #[.int .u8 (a : Int), .int .u8 (c : Int), .bool fl] w fun e w' => e = .returned (.bool true) ∧ Below w.heap.size w w' := by
  obtain ⟨k, hk⟩ : ∃ k, a % 8 = k := ⟨_, rfl⟩
  have ek : (a : Int) % 8 = (k : Int) := by omega
  have hk8 : k < 8 := by omega
  have hks : k < su8.length := by rw [su8_len]; exact hk8
  have H1 := Lib.hid (DSt.torn_of (DSt.new_up 8) rfl rfl hks (rowL_len c))
  have H2 := Lib.hid (fun (j : Nat) (hj : j < 8) => (DSt.torn_read hks (by rw [su8_len]; exact hj) (by rw [su8_get hj]; exact row_ne 0)).trans (by rw [su8_get hj]))
  have H3 := Lib.hid (DSt.torn_write hks (rowL_len c))
  have H4 := Lib.hid (DSt.again_read hks (rowL_len c))
  have H5 := Lib.hid (DSt.flush_read hks (rowL_len c))
  clear hk hks
  go_enter Try.func4, Try.ntmps4
  go_wp2_with fail
  refine (dawake_any w).mono ?_; rintro e w1 ⟨rfl, hb1⟩
  go_wp2_with fail
  refine (dnew_de 8 (by omega) (by omega) _ hb1).mono ?_; rintro e w2 ⟨g, rfl, E⟩
  go_wp2_with fail
  refine (row_any c hc false _).mono ?_; rintro e w3 ⟨A3, n3, c3, rfl, ho, hn, hb⟩
  have E := E.below hb
  go_wp2_with fail
  refine (dwrite_de E (k : Int) ho (by omega) (by decide) (by decide)).mono ?_; rintro e w4 ⟨rfl, E⟩
  rw [H1.out.1] at E ⊢
  clear ho hn hb
  go_wp2_with fail
  have E := E.alloc (.cells #[.int .u8 2] 5)
  refine (dup_de E (Ints.one .u8 256 5 2 rfl (by omega) rfl) (by omega)).mono ?_; rintro e w5 ⟨⟨_, rfl⟩, E⟩
  rw [H1.out.2] at E
  go_wp2_with fail
  go_loopw [10] (fun v wr => ∃ j : Nat, j ≤ 8 ∧ v = .int .i64 j ∧ DE w wr g (DSt.torn k su8) [] []) (fun i _ => 8 - (intOf i).toNat)
  case atStart => exact ⟨0, Nat.zero_le _, rfl, E⟩
  case round =>
    obtain ⟨j, hj8, rfl, E⟩ := hrel
    by_cases hjl : j < 8
    · have hlt : (j : Int) < 8 := by omega
      by_cases hjk : j = k
      · subst hjk
        have HR := Lib.hid ((H2.out j hjl).trans (if_pos rfl))
        go_wp2_with fail
        refine (dread_de E (j : Int)).mono ?_; rintro e w6 ⟨A6, n6, c6, rfl, E⟩
        rw [HR.out] at E
        rw [HR.out]
        have hx := (E.row 0 rfl).len
        dsimp only [List.length_nil] at hx
        have hx0 : ((n6 : Int) != 0) = false := by simp; omega
        have hjj : ((j : Int) == (j : Int)) = true := by simp
        have hjj2 : ((j : Int) != (j : Int)) = false := by simp
        have E := E.forget
        clear hx
        go_wp2_with fail
        exact ⟨⟨j + 1, by omega, by go_num, E⟩, by simp [intOf]; omega⟩
      · have hjb : ((j : Int) == (k : Int)) = false := by simp; omega
        have hjb2 : ((j : Int) != (k : Int)) = true := by simp; omega
        have HR := Lib.hid ((H2.out j hjl).trans (if_neg hjk))
        clear hjk
        go_wp2_with fail
        refine (dread_de E (j : Int)).mono ?_; rintro e w7 ⟨A7, n7, c7, rfl, E⟩
        rw [HR.out] at E
        rw [HR.out]
        go_wp2_with fail
        refine (row_any 0 (by omega) false _).mono ?_; rintro e w8 ⟨A8, n8, c8, rfl, ho, hn, hb⟩
        have E := E.below hb
        have x1 := (E.row 0 rfl).ints
        dsimp only at x1
        have hx1 := x1.len
        rw [rowL_len] at hx1
        go_wp2_with fail
        refine (rows_any _ _ _ _ _ _ _ _ _ x1 ho.ints (by omega) (by omega)).mono ?_; rintro e w9 ⟨⟨q1, rfl⟩, rfl⟩
        rw [decide_eq_true (rfl : rowL 0 false = rowL 0 false)]
        have E := (E.drewN q1).forget
        clear ho hn hb x1 hx1
        go_wp2_with fail
        exact ⟨⟨j + 1, by omega, by go_num, E⟩, by simp [intOf]; omega⟩
    · obtain rfl : j = 8 := by omega
      go_wp2_with fail
      refine (row_any c hc false _).mono ?_; rintro e w10 ⟨A10, n10, c10, rfl, ho, hn, hb⟩
      have E := E.below hb
      go_wp2_with fail
      refine (dwrite_de E (k : Int) ho (by omega) (by show 0 < 1152921504606846976; decide) (by show 0 < 1099511627776; decide)).mono ?_; rintro e w11 ⟨rfl, E⟩
      rw [H3.out] at E ⊢
      clear ho hn hb
      dsimp only at E
      cases fl with
      | true =>
        go_wp2_with fail
        refine (dflush_de E (by show 1 < 1152921504606846976; decide)).mono ?_; rintro e w12 ⟨rfl, E⟩
        rw [H5.out.1]
        go_wp2_with fail
        refine (dread_de E (k : Int)).mono ?_; rintro e w13 ⟨A13, n13, c13, rfl, E⟩
        rw [H5.out.2.1] at E
        rw [H5.out.2.1]
        go_wp2_with fail
        refine (dup_de E (Ints.nil_ ..) (by omega)).mono ?_; rintro e w14 ⟨⟨_, rfl⟩, E⟩
        go_wp2_with fail
        refine (dread_de E (k : Int)).mono ?_; rintro e w15 ⟨A15, n15, c15, rfl, E⟩
        rw [H5.out.2.2] at E
        rw [H5.out.2.2]
        go_wp2_with fail
        refine (row_any c hc false _).mono ?_; rintro e w16 ⟨A16, n16, c16, rfl, ho, hn, hb⟩
        have E := E.below hb
        have x1 := (E.row 1 rfl).ints
        dsimp only at x1
        have hx1 := x1.len
        rw [rowL_len] at hx1
        go_wp2_with fail
        refine (rows_any _ _ _ _ _ _ _ _ _ x1 ho.ints (by omega) (by omega)).mono ?_; rintro e w17 ⟨⟨q1, rfl⟩, rfl⟩
        rw [decide_eq_true (rfl : rowL c false = rowL c false)]
        have E := (E.drewN q1).forget
        clear ho hn hb x1 hx1
        go_wp2_with fail
        go_ret
        exact ⟨rfl, E.bel⟩
      | false =>
        go_wp2_with fail
        refine (dread_de E (k : Int)).mono ?_; rintro e w12 ⟨A12, n12, c12, rfl, E⟩
        rw [H4.out.1] at E
        rw [H4.out.1]
        go_wp2_with fail
        refine (dup_de E (Ints.nil_ ..) (by omega)).mono ?_; rintro e w13 ⟨⟨_, rfl⟩, E⟩
        go_wp2_with fail
        refine (dread_de E (k : Int)).mono ?_; rintro e w14 ⟨A14, n14, c14, rfl, E⟩
        rw [H4.out.2] at E
        rw [H4.out.2]
        go_wp2_with fail
        refine (row_any c hc false _).mono ?_; rintro e w15 ⟨A15, n15, c15, rfl, ho, hn, hb⟩
        have E := E.below hb
        have x1 := (E.row 1 rfl).ints
        dsimp only at x1
        have hx1 := x1.len
        rw [rowL_len] at hx1
        go_wp2_with fail
        refine (rows_any _ _ _ _ _ _ _ _ _ x1 ho.ints (by omega) (by omega)).mono ?_; rintro e w16 ⟨⟨q1, rfl⟩, rfl⟩
        rw [decide_eq_true (rfl : rowL c false = rowL c false)]
        have E := (E.drewN q1).forget
        clear ho hn hb x1 hx1
        go_wp2_with fail
        go_ret
        exact ⟨rfl, E.bel⟩
end Go.Proofs.Ytkjmccicdjkccaa
