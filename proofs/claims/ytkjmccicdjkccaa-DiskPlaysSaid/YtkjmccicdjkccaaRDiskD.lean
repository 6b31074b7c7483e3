/- The contracts of heijunkaref05's Flush, Plan and Up. No condition but those of 'goes' and 'lay'. -/
import Derived.Test.YtkjmccicdjkccaaRDiskC
namespace Go.Proofs.Ytkjmccicdjkccaa
set_option linter.unusedSimpArgs false
set_option linter.unusedVariables false
open Go.RowKit

section
variable {w : World} {T : List Nat} {g : Nat} {s : DSt}
set_option maxRecDepth 100000 in
set_option maxHeartbeats 3200000 in
theorem rflush_any (R : RefAt w T g s) (hb : s.begun < 1152921504606846976) (hp : s.pend.length < 1099511627776) :
    Calls Try.prog 32 #[.pointer (some ⟨g, 0, none⟩)] w fun e w' => e = .returned (.int .i64 s.flush.2) ∧ ∃ T', RefAt w' T' g s.flush.1 ∧ Moved w w' T T' := by
  obtain ⟨BA, n, bc, GA, gc, AA, m, ac, NA, nc, st, xs, bs, ks, ys, h⟩ := R.ex
  have c4 := h.c4
  have hm := h.m_eq
  have H := Lib.hid h
  clear R h
  obtain ⟨dn, hdn⟩ : ∃ d, s.down = d := ⟨_, rfl⟩
  rw [hdn] at c4
  cases dn with
  | true =>
    have HF := Lib.hid (DSt.flush_down hdn)
    clear hdn hm
    go_enter Try.func32, Try.ntmps32
    go_wp2_with fail
    go_ret
    exact ⟨by rw [HF.out]; rfl, T, by rw [HF.out]; exact H.out.mk_, Moved.refl w T⟩
  | false =>
    have HD := Lib.hid hdn
    clear hdn
    go_enter Try.func32, Try.ntmps32
    go_wp2_with fail
    refine (goes_in H.out hb).mono ?_; rintro e w1 ⟨rfl, R1, M1⟩
    clear c4
    have HR := Lib.hid (And.intro R1 M1)
    clear R1 M1
    obtain ⟨gs, hgs⟩ : ∃ b, s.goes = b := ⟨_, rfl⟩
    rw [hgs]
    cases gs with
    | true =>
      have HF := Lib.hid (DSt.flush_goes HD.out hgs)
      clear hgs hm
      go_wp2_with fail
      go_ret
      exact ⟨by rw [HF.out]; rfl, T, by rw [HF.out]; exact HR.out.1.mk_, HR.out.2⟩
    | false =>
      have HF := Lib.hid (DSt.flush_ok HD.out hgs)
      clear hgs
      go_wp2_with fail
      refine (rlay_in HR.out.1 true (Ints.nil_ _ .u8 256 none 0) (fun h => absurd h (by decide)) (by decide) (by omega)).mono ?_; rintro e w2 ⟨⟨_, rfl⟩, T', xs', bs', R2, M2⟩
      have H2 := Lib.hid (And.intro R2 M2)
      clear R2 M2
      go_wp2_with fail
      go_ret
      refine ⟨by rw [HF.out]; rfl, T', ?_, HR.out.2.trans H2.out.2⟩
      rw [HF.out]
      exact H2.out.1.mk_
theorem rplan_any (R : RefAt w T g s) (k : Int) (hk : k < 9223372036854775808) (hk0 : -9223372036854775808 ≤ k) :
    Calls Try.prog 33 #[.pointer (some ⟨g, 0, none⟩), .int .i64 k] w fun e w' => (∃ v, e = .returned v) ∧ RefAt w' T g (s.plan k) ∧ Moved w w' T T := by
  obtain ⟨BA, n, bc, GA, gc, AA, m, ac, NA, nc, st, xs, bs, ks, ys, h⟩ := R.ex
  exact (rplan_in h k hk hk0).mono fun _ _ ⟨he, h1, h2⟩ => ⟨he, h1.mk_, h2⟩
set_option maxRecDepth 100000 in
set_option maxHeartbeats 3200000 in
theorem rup_any (R : RefAt w T g s) {cA : Option Addr} {cn cc : Nat} {cl : List Nat} (hC : Ints w .u8 256 cA cn cc cl) (hoff : 0 < cn → ∀ ad, cA = some ad → ad.block ∉ T) (hcn : cn ≤ 1099511627776) (hp : s.pend.length < 1099511627776) :
    Calls Try.prog 34 #[.pointer (some ⟨g, 0, none⟩), .slice cA cn cc] w fun e w' => (∃ v, e = .returned v) ∧ ∃ T', RefAt w' T' g (s.up cl) ∧ Moved w w' T T' := by
  obtain ⟨BA, n, bc, GA, gc, AA, m, ac, NA, nc, st, xs, bs, ks, ys, h⟩ := R.ex
  have hm := h.m_eq
  have HL := Lib.hid (rlay_in h false hC hoff hcn (by omega))
  clear R h hC hoff
  go_enter Try.func34, Try.ntmps34
  go_wp2_with fail
  refine HL.out.mono ?_; rintro e w2 ⟨⟨_, rfl⟩, T', xs', bs', R2, M2⟩
  have h0 := R2.st0
  have h1 := R2.st1
  have R3 := R2.put { sure := layOf s false cl, pend := [], down := false, stop := s.stop, begun := s.begun } st 4 (.bool false) rfl rfl rfl R2.est h0 h1
  have M3 := M2.set_ (p := ⟨g, 4, none⟩) R2.gT (.bool false)
  have R4 := R3.put { sure := layOf s false cl, pend := [], down := false, stop := 0, begun := s.begun } 0 5 (.int .i64 0) rfl rfl rfl rfl (by decide) (by decide)
  have M4 := M3.set_ (p := ⟨g, 5, none⟩) R3.gT (.int .i64 0)
  have R5 := R4.put (s.up cl) 0 6 (.int .i64 0) rfl rfl rfl rfl (by decide) (by decide)
  have M5 := M4.set_ (p := ⟨g, 6, none⟩) R4.gT (.int .i64 0)
  have c4 := R2.c4
  have f4 := R2.blk.frozen 4
  have c5 := R3.c5
  have f5 := R3.blk.frozen 5
  have c6 := R4.c6
  have f6 := R4.blk.frozen 6
  have H := Lib.hid (And.intro R5 M5)
  clear R2 M2 R3 M3 R4 M4 R5 M5 HL
  go_wp2_with fail
  go_end0
  exact ⟨⟨_, rfl⟩, T', H.out.1.mk_, H.out.2⟩
end
end Go.Proofs.Ytkjmccicdjkccaa
