/- The contract of heijunkaref05's Image. No condition. -/
import Derived.Test.YtkjmccicdjkccaaRDiskG
namespace Go.Proofs.Ytkjmccicdjkccaa
set_option linter.unusedSimpArgs false
set_option linter.unusedVariables false
open Go.RowKit

theorem bel_nil (w : World) : BEl.In w ⟨none, 0, 0, []⟩ := ⟨OwnI.nil_ .., Iff.intro (fun _ => rfl) (fun _ => rfl)⟩
section
variable {w : World} {T : List Nat} {g : Nat} {s : DSt}
set_option maxRecDepth 100000 in
set_option maxHeartbeats 6400000 in
theorem rimage_any (R : RefAt w T g s) :
    Calls Try.prog 24 #[.pointer (some ⟨g, 0, none⟩)] w fun e w' => ∃ A n c, e = .returned (.slice A n c) ∧ Img w' w.heap.size A n c s.sure ∧ Below w.heap.size w w' := by
  obtain ⟨BA, n, bc, GA, gc, AA, m, ac, NA, nc, st, xs, bs, ks, ys, h⟩ := R.ex
  have hn := h.n_eq
  have hmost := h.wf.most
  have H := Lib.hid h
  clear R h
  go_enter Try.func24, Try.ntmps24
  go_wp2_with fail
  go_loopw [3, 4] (fun ov iv wr => ∃ (k : Nat) (A2 : Option Addr) (c2 : Nat), k ≤ n ∧ iv = .int .i64 (k : Int) ∧ ov = .slice A2 k c2 ∧ Img wr w.heap.size A2 k c2 (s.sure.take k) ∧ Below w.heap.size w wr) (fun _ iv _ => n - (intOf iv).toNat)
  case atStart => exact ⟨0, none, 0, Nat.zero_le _, rfl, rfl, Img.nil_ .., Below.refl _ _⟩
  case round =>
    obtain ⟨k, A2, c2, hk, rfl, rfl, hI, hb⟩ := hrel
    have hbs := hb.size
    have R := H.out.below hb
    have c0 := R.c0
    have c1_ := R.c1
    by_cases hkn : k < n
    · have hlt : (k : Int) < (n : Int) := by omega
      obtain ⟨zs, z1, z2, z3⟩ := hI.ex
      obtain ⟨x, q, b, d, hx, xin, hq, rfl, rfl, cb, _, cd, _, hsu⟩ := R.sx hkn
      cases q with
      | true =>
        have HS := Lib.hid (show s.sure[k]? = some [] from hsu)
        have hnil := bel_nil (wr.alloc (.cells #[.slice none 0 0] 29))
        clear hsu hx hq R hI
        go_wp2_with (at_builtin; refine wpList_appR _ rfl (.tmp 21) (.tmp 22) 43 rfl 29 (.slice none 0 0) 1 24 Try.underlying43 binfo rfl (by omega) (by omega) rfl (z1.alloc _) (ad := ⟨wr.heap.size, 0, none⟩) (m := 1) (c' := 1) [.slice none 0 0] rfl rfl (cells_new wr #[.slice none 0 0] 29 (g := wr.heap.size) rfl) (by intro u hu; rw [List.mem_singleton] at hu; subst hu; rfl) (by omega) (by simp; omega) ?_; intro A6 c6 w6 o6 g6 a6)
        have hI6 := Img.snoc (x := ⟨none, 0, 0, []⟩) (fun z hz => (z2 z hz).alloc (.cells #[.slice none 0 0] 29)) (z1.alloc _) hnil o6 g6
        rw [← z3] at hI6
        have hb6 := below_own (hb.alloc hb.size (.cells #[.slice none 0 0] 29)) g6 (by simp; omega) (fun ad h => (z1.lt ad h).1)
        go_roundw
        case rel => exact ⟨k + 1, A6, c6, by omega, by go_num, rfl, by rw [List.take_add_one, HS.out]; exact hI6, hb6⟩
        case measure => simp [intOf]; omega
      | false =>
        have HS := Lib.hid (show s.sure[k]? = some x.l from hsu)
        have hxin := xin.alloc (.cells #[.slice x.A x.n x.c] 29)
        clear hsu hx hq R hI
        go_wp2_with (at_builtin; refine wpList_appR _ rfl (.tmp 24) (.tmp 32) 43 rfl 29 (.slice none 0 0) 1 24 Try.underlying43 binfo rfl (by omega) (by omega) rfl (z1.alloc _) (ad := ⟨wr.heap.size, 0, none⟩) (m := 1) (c' := 1) [.slice x.A x.n x.c] rfl rfl (cells_new wr #[.slice x.A x.n x.c] 29 (g := wr.heap.size) rfl) (by intro u hu; rw [List.mem_singleton] at hu; subst hu; rfl) (by omega) (by simp; omega) ?_; intro A6 c6 w6 o6 g6 a6)
        have hI6 := Img.snoc (x := x) (fun z hz => (z2 z hz).alloc (.cells #[.slice x.A x.n x.c] 29)) (z1.alloc _) hxin o6 g6
        rw [← z3] at hI6
        have hb6 := below_own (hb.alloc hb.size (.cells #[.slice x.A x.n x.c] 29)) g6 (by simp; omega) (fun ad h => (z1.lt ad h).1)
        go_roundw
        case rel => exact ⟨k + 1, A6, c6, by omega, by go_num, rfl, by rw [List.take_add_one, HS.out]; exact hI6, hb6⟩
        case measure => simp [intOf]; omega
    · obtain rfl : k = n := by omega
      have hlt : ¬ (k : Int) < (k : Int) := by omega
      rw [List.take_of_length_le (by omega)] at hI
      have HI := Lib.hid (And.intro hI hb)
      clear hI hb R
      go_wp2_with fail
      go_ret
      exact ⟨A2, k, c2, rfl, HI.out.1, HI.out.2⟩
end
end Go.Proofs.Ytkjmccicdjkccaa
