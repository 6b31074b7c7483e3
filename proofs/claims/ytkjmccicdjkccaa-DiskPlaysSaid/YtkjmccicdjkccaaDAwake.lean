/- The answers that a law of layer 5 asks first. No condition. -/
import Derived.Test.YtkjmccicdjkccaaDRow
namespace Go.Proofs.Ytkjmccicdjkccaa
set_option linter.unusedSimpArgs false
set_option linter.unusedVariables false
open Go.RowKit

set_option maxRecDepth 100000 in
set_option maxHeartbeats 3200000 in
theorem dawake_any (w : World) : Calls Try.prog 9 #[] w fun e w' => e = .returned (.bool true) ∧ Below w.heap.size w w' := by
  go_enter Try.func9, Try.ntmps9
  go_wp2_with fail
  refine (dnew_de 2 (by omega) (by omega) _ (Below.refl _ _)).mono ?_; rintro e w1 ⟨g, rfl, E⟩
  go_wp2_with fail
  refine (dnew_no 0 (by omega) _).mono ?_; rintro e w2 ⟨rfl, rfl⟩
  go_wp2_with fail
  refine (row_any 7 (by omega) false _).mono ?_; rintro e w3 ⟨A3, n3, c3, rfl, ho, hn, hb⟩
  have E := E.below hb
  go_wp2_with fail
  refine (dwrite_de E 0 ho (by omega) (by decide) (by decide)).mono ?_; rintro e w4 ⟨rfl, E⟩
  rw [show ((DSt.new 2).write 0 (rowL 7 false)).2 = 0 from by decide +kernel]
  clear ho hn hb
  go_wp2_with fail
  refine (dread_de E 0).mono ?_; rintro e w5 ⟨A5, n5, c5, rfl, E⟩
  rw [show (((DSt.new 2).write 0 (rowL 7 false)).1.read 0).2 = 0 from by decide +kernel]
  go_wp2_with fail
  have E := E.alloc (.cells #[.int .u8 2] 5)
  refine (dup_de E (Ints.one .u8 256 5 2 rfl (by omega) rfl) (by omega)).mono ?_; rintro e w6 ⟨⟨_, rfl⟩, E⟩
  go_wp2_with fail
  refine (dread_de E 0).mono ?_; rintro e w7 ⟨A7, n7, c7, rfl, E⟩
  rw [show ((((DSt.new 2).write 0 (rowL 7 false)).1.up [2]).read 0).2 = 6 from by decide +kernel]
  go_wp2_with fail
  refine (row_any 9 (by omega) false _).mono ?_; rintro e w8 ⟨A8, n8, c8, rfl, ho, hn, hb⟩
  have E := E.below hb
  go_wp2_with fail
  refine (dwrite_de E 1 ho (by omega) (by decide) (by decide)).mono ?_; rintro e w9 ⟨rfl, E⟩
  rw [show ((((DSt.new 2).write 0 (rowL 7 false)).1.up [2]).write 1 (rowL 9 false)).2 = 0 from by decide +kernel]
  clear ho hn hb
  go_wp2_with fail
  refine (dflush_de E (by decide)).mono ?_; rintro e w10 ⟨rfl, E⟩
  rw [show ((((DSt.new 2).write 0 (rowL 7 false)).1.up [2]).write 1 (rowL 9 false)).1.flush.2 = 0 from by decide +kernel]
  go_wp2_with fail
  refine (dup_de E (Ints.nil_ ..) (by omega)).mono ?_; rintro e w11 ⟨⟨_, rfl⟩, E⟩
  go_wp2_with fail
  refine (dread_de E 1).mono ?_; rintro e w12 ⟨A12, n12, c12, rfl, E⟩
  rw [show ((((((DSt.new 2).write 0 (rowL 7 false)).1.up [2]).write 1 (rowL 9 false)).1.flush.1.up []).read 1).2 = 0 from by decide +kernel]
  go_wp2_with fail
  refine (row_any 7 (by omega) false _).mono ?_; rintro e w13 ⟨A13, n13, c13, rfl, ho, hn, hb⟩
  have E := E.below hb
  have x1 := (E.row 2 rfl).ints
  dsimp only at x1
  rw [show (((DSt.new 2).write 0 (rowL 7 false)).1.read 0).1 = rowL 7 false from by decide +kernel] at x1
  have hx1 := x1.len
  rw [rowL_len] at hx1
  go_wp2_with fail
  refine (rows_any _ _ _ _ _ _ _ _ _ x1 ho.ints (by omega) (by omega)).mono ?_; rintro e w14 ⟨⟨q1, rfl⟩, rfl⟩
  rw [decide_eq_true (rfl : rowL 7 false = rowL 7 false)]
  have E := E.drewN q1
  clear ho hn hb x1
  go_wp2_with fail
  refine (row_any 9 (by omega) false _).mono ?_; rintro e w15 ⟨A15, n15, c15, rfl, ho, hn, hb⟩
  have E := E.below hb
  have x1 := (E.row 0 rfl).ints
  dsimp only at x1
  rw [show ((((((DSt.new 2).write 0 (rowL 7 false)).1.up [2]).write 1 (rowL 9 false)).1.flush.1.up []).read 1).1 = rowL 9 false from by decide +kernel] at x1
  have hx2 := x1.len
  rw [rowL_len] at hx2
  go_wp2_with fail
  refine (rows_any _ _ _ _ _ _ _ _ _ x1 ho.ints (by omega) (by omega)).mono ?_; rintro e w16 ⟨⟨q2, rfl⟩, rfl⟩
  rw [decide_eq_true (rfl : rowL 9 false = rowL 9 false)]
  have E := E.drewN q2
  clear ho hn hb x1
  go_wp2_with fail
  refine (dsectors_de E).mono ?_; rintro e w17 ⟨rfl, rfl⟩
  rw [show (((((((DSt.new 2).write 0 (rowL 7 false)).1.up [2]).write 1 (rowL 9 false)).1.flush.1.up []).sure.length : Nat) : Int) = 2 from by decide +kernel]
  go_wp2_with fail
  go_ret
  exact ⟨rfl, E.bel⟩
end Go.Proofs.Ytkjmccicdjkccaa
